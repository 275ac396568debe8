/- Part 20 of 30 of the proof of the law DagPasts: what is proved is the statement at the end of the last part; its conditions are those of the given row. -/
import Derived.Laws.CopyOwn
import Derived.Laws.CopyRow
import Derived.Laws.Externs
import Derived.Laws.NewBlocks
import GoSem.Extern.SlicesOverlaps
import Derived.WalkSpells
import Derived.Test.YtndjfdakflaggaaZDagPastsL
namespace Go.Proofs.Ytndjfdakflaggaa.Px
open Go.RowKit Go.Proofs.YtndjfdakflaggaaW.PrintWords Go.Proofs.YtndjfdakflaggaaW.PrintLast Go.Proofs.YtndjfdakflaggaaW.PrintMore
attribute [local go_sem] zt zv zA zB zq zr zu zw
set_option linter.unusedVariables false
set_option linter.unusedSimpArgs false
theorem zeS {P : Program} (w : World) (t ti ty e : TypeId) (i : TypeInfo) (z : Value) (size bytes : Nat) (ht : P.underlying t = some (.slice e)) {k : IntKind} (hti : P.underlying ti = some (.int k)) (hi : P.info? e = some i) (hz : i.zero = some z)
  (hsize : i.size = size) (hby : i.bytes = bytes) (hzs : z.cells.size = size) (hsz : 0 < size) (hb0 : 0 < bytes)
  (b : Addr) (n cap : Nat) (olds : List Value) (hlo : olds.length = n * size) (holds : ∀ j u,olds[j]? = some u → w.cell? (b.add j) = some u) (kx : IntKind) (m : Nat) (hm : 0 < m)
  (hg : cap < n + m) (hbytes : (n + m) * bytes ≤ 140737488355328) :
  ∃ v' w',(Builtin.append_ #[t,ti] ty #[.slice (some b) n cap,.int kx m]).run P w = .ok v' w' ∧ w'.ownsRow w.heap.size e size v' (n + m) (olds ++ (Builtin.zeroCells z.cells m).toList) ∧ w.grownBy w' none := by
 subst hsize
 subst hby
 have hle : n + m ≤ 140737488355328 := Nat.le_trans (Nat.le_mul_of_pos_right _ hb0) hbytes
 have h63 : n + m ≤ maxLen := by simp only [maxLen];omega
 have hw : IntKind.i64.wrap (m : Int) = m := by rw [IntKind.wrap_i64];omega
 have hneg : ¬ ((m : Int) < 0) := by omega
 have hmb : m * i.bytes ≤ 140737488355328 := Nat.le_trans (Nat.mul_le_mul_right _ (Nat.le_add_left m n)) hbytes
 have hbig : ¬ (281474976710656 < (m : Int) * (i.bytes : Int)) := by
  rw [← Int.natCast_mul]
  omega
 have hsn : i.size ≠ 0 := by omega
 obtain ⟨news,hnews⟩ : ∃ news,news = (Builtin.zeroCells z.cells m).toList := ⟨_,rfl⟩
 rw [← hnews]
 have hl : news.length = m * i.size := by rw [hnews,Array.length_toList,size_zeroCells,hzs]
 have hna : Builtin.zeroCells z.cells m = news.toArray := by rw [hnews]
 have hlen : (olds ++ news).length = (n + m) * i.size := by rw [List.length_append,hlo,hl,Nat.add_mul]
 have hge := grownCap_ge w (n + m) cap e
 have hcm : grownCap w (n + m) cap e ≤ maxLen := grownCap_le_maxLen w (n + m) cap e h63
 have hn : ¬ (n + m ≤ cap) := by omega
 have h63' : ¬ (9223372036854775807 < ((n : Int) + (m : Int))) := by omega
 have hfit := growslice_fits hg hbytes
 have h48' : ¬ (281474976710656 < Builtin.nextslicecap (n + m) cap * i.bytes) := by omega
 have hmz : ¬ (m * i.size = 0) := Nat.mul_ne_zero (by omega) hsn
 have hfo := run_firstCells_some (P := P) w.drew i.size n b n cap olds hlo (by simpa using holds)
 refine ⟨.slice (some ⟨w.heap.size,0,none⟩) (n + m) (grownCap w (n + m) cap e),w.drew.alloc (.cells (olds.toArray ++ news.toArray ++ Builtin.zeroCells z.cells (grownCap w (n + m) cap e - (n + m))) e),?_,⟨hlen,.inr ⟨w.heap.size,_,_,rfl,Nat.le_refl _,heap_alloc_new w.drew _,hge,hcm,?_,?_⟩⟩,⟨rfl,rfl,rfl,by simp,fun k hk _ => heap_alloc_old w.drew _ hk⟩⟩
 ·simp [Builtin.append_,run_underlying ht,run_underlying hti,Go.sizeOf,typeInfo,zeroValue,hi,hz,asInt,asIntOf,hw,hneg,hbig,hn,h63',h48',Question.forced,hfo,newRow,grownCap,hmz,hna]
  congr 2
  apply Array.ext'
  simp [List.append_assoc]
 ·simp only [Array.size_append,List.size_toArray,size_zeroCells,hzs,hlo,hl,← Nat.add_mul]
  congr 1
  omega
 ·simp only [Array.toList_append,List.append_assoc]
  rw [← List.append_assoc,← hlen]
  exact List.take_left
theorem ziK {P : Program} (w : World) (dT sT ty elem : TypeId) (g o dLen dCap : Nat) (a : Addr) (sLen sCap : Nat) (cur : Array Value) (t : TypeId) (cs : List Value) (size : Nat)
  (hu : P.underlying dT = some (.slice elem)) (hs : (P.info? elem).map (·.size) = some size)
  (hg : w.heap[g]? = some (.cells cur t (0,0))) (hn : cs.length = Nat.min sLen dLen * size)
  (hsrc : ∀ j v,cs[j]? = some v → w.cell? (a.add j) = some v) (hfit : o + cs.length ≤ cur.size) (h1 : ∀ v ∈ cs,v.oneCell' = true) :
  (Builtin.copy_ #[dT,sT] ty #[.slice (some ⟨g,o,none⟩) dLen dCap,.slice (some a) sLen sCap]).run P w =
   .ok (goInt (Nat.min sLen dLen)) (w.setRow g (cur.toList.take o ++ cs ++ cur.toList.drop (o + cs.length)).toArray) := by
 have hl := run_loadCells_list (P := P) w a cs hsrc
 have hst := run_storeCells_at P g o t cs 0 cur w hg (by simpa using hfit) h1
 cases hq : P.info? elem with
 | none => simp [hq] at hs
 | some i =>
  have hi : i.size = size := by simpa [hq] using hs
  simp [Builtin.copy_,run_underlying hu,Builtin.lenOf,Builtin.firstCells,Go.sizeOf,typeInfo,hq,hi,← hn,hl,hst]
theorem zhV {P : Program} (w : World) (T : TypeId) (rs : Array TypeId) (elem : TypeId) (a b : Nat) (la ca o lb cb size : Nat) (cura curb : Array Value) (e e' : TypeId) (T' : TypeId)
  (hu : P.underlying T = some (.slice elem)) (hs : (P.info? elem).map (·.size) = some size) (ha : w.heap[a]? = some (.cells cura e (0,0))) (hb : w.heap[b]? = some (.cells curb e' (0,0))) (hne : a ≠ b) :
  (Extern.SlicesOverlaps.overlaps #[T,T'] rs #[.slice (some ⟨a,0,none⟩) la ca,.slice (some ⟨b,o,none⟩) lb cb]).run P w = .ok (.bool false) w := by
 have key : (Extern.SlicesOverlaps.overlaps #[T,T'] rs #[.slice (some ⟨a,0,none⟩) la ca,.slice (some ⟨b,o,none⟩) lb cb]) = (do
   let .slice elem ← underlying T | stuck "slices.overlaps: slice type expected"
   let size ← Go.sizeOf elem
   if la = 0 ∨ lb = 0 ∨ size = 0 then pure (.bool false)
   else if (⟨a,0,none⟩ : Addr).block != (⟨b,o,none⟩ : Addr).block && (← frozen ⟨a,0,none⟩) && (← frozen ⟨b,o,none⟩) then unsupported .addressObserved
   else do
    if (⟨a,0,none⟩ : Addr).block != (⟨b,o,none⟩ : Addr).block then do
     noView ⟨a,0,none⟩;noView ⟨b,o,none⟩
     if ← mayBeOne ⟨a,0,none⟩ ⟨b,o,none⟩ then return .bool ((← choose (.extern "sameAddr.stringBytes" 2)) == 1)
    pure (.bool ((⟨a,0,none⟩ : Addr).block == (⟨b,o,none⟩ : Addr).block && (⟨a,0,none⟩ : Addr).off < (⟨b,o,none⟩ : Addr).off + lb * size && (⟨b,o,none⟩ : Addr).off < (⟨a,0,none⟩ : Addr).off + la * size)) : Sem Value) := rfl
 rw [key]
 cases hq : P.info? elem with
 | none => simp [hq] at hs
 | some i =>
  have hfa : ∀ n,w.frozen? ⟨a,n,none⟩ = false := fun n => by simp [World.frozen?,ha]
  have hfb : ∀ n,w.frozen? ⟨b,n,none⟩ = false := fun n => by simp [World.frozen?,hb]
  have hsa : w.shape? a = some (e,cura.size) := by simp [World.shape?,ha]
  have hsb : w.shape? b = some (e',curb.size) := by simp [World.shape?,hb]
  simp [run_underlying hu,Go.sizeOf,typeInfo,hq,hne,frozen,noView,viewAt,shape,mayBeOne,stringish,hfa,hfb,hsa,hsb,Sem.run]
theorem zeg {P : Program} (w : World) {ops : Array Oper} {rest : List Oper} {o : Oper} {a : Act} {Q : Exit → Act → World → Prop}
  (hgd : o.guard = none) (s x : Operand) (t ti : TypeId) (ho : o.op = .call { callee := .builtin .append,args := #[s,x],argTypes := #[t,ti] })
  (e : TypeId) (i : TypeInfo) (z : Value) (size bytes : Nat) (ht : P.underlying t = some (.slice e)) {k : IntKind} (hti : P.underlying ti = some (.int k)) (hi : P.info? e = some i) (hz : i.zero = some z)
  (hsize : i.size = size) (hby : i.bytes = bytes) (hzs : z.cells.size = size) (hsz : 0 < size) (hb0 : 0 < bytes)
  (b : Addr) (n cap : Nat) (olds : List Value) (hs : a.eval s = .slice (some b) n cap) (hlo : olds.length = n * size) (holds : ∀ j u,olds[j]? = some u → w.cell? (b.add j) = some u) (kx : IntKind) (m : Nat) (hx : a.eval x = .int kx m) (hm : 0 < m)
  (hg : cap < n + m) (hbytes : (n + m) * bytes ≤ 140737488355328)
  (h : ∀ v' w',w'.ownsRow w.heap.size e size v' (n + m) (olds ++ (Builtin.zeroCells z.cells m).toList) → w.grownBy w' none → wpList P ops Q rest (a.put o.dst v') w') : wpList P ops Q (o :: rest) a w := by
 refine wpList_plain hgd fun K' hK' => ?_
 obtain ⟨v',w',hrun,r1,r2⟩ := zeS w t ti o.type e i z size bytes ht hti hi hz hsize hby hzs hsz hb0 b n cap olds hlo holds kx m hm hg hbytes
 unfold Oper.wp
 simp [execOp,ho,resolve,invoke,builtin,hs,hx,hrun,Result.andThen]
 exact hK' _ _ (h v' w' r1 r2)
theorem zby {P : Program} (w : World) {ops : Array Oper} {rest : List Oper} {o : Oper} {a : Act} {Q : Exit → Act → World → Prop}
  (hgd : o.guard = none) (d s : Operand) (dT sT : TypeId) (ho : o.op = .call { callee := .builtin .copy,args := #[d,s],argTypes := #[dT,sT] })
  (elem : TypeId) (size : Nat) (hu : P.underlying dT = some (.slice elem)) (hsz : (P.info? elem).map (·.size) = some size)
  (g off dLen dCap : Nat) (ad : Addr) (sLen sCap : Nat) (hd : a.eval d = .slice (some ⟨g,off,none⟩) dLen dCap) (hs : a.eval s = .slice (some ad) sLen sCap)
  (cur : Array Value) (t : TypeId) (hg : w.heap[g]? = some (.cells cur t (0,0))) (cs : List Value) (hn : cs.length = Nat.min sLen dLen * size) (hsrc : ∀ j v,cs[j]? = some v → w.cell? (ad.add j) = some v)
  (hfit : off + cs.length ≤ cur.size) (h1 : ∀ v ∈ cs,v.oneCell' = true)
  (h : ∀ w' : World,w' = w.setRow g (cur.toList.take off ++ cs ++ cur.toList.drop (off + cs.length)).toArray → wpList P ops Q rest (a.put o.dst (goInt (Nat.min sLen dLen))) w') : wpList P ops Q (o :: rest) a w := by
 refine wpList_plain hgd fun K' hK' => ?_
 have hrun := ziK (P := P) w dT sT o.type elem g off dLen dCap ad sLen sCap cur t cs size hu hsz hg hn hsrc hfit h1
 unfold Oper.wp
 simp [execOp,ho,resolve,invoke,builtin,hd,hs,hrun,Result.andThen]
 exact hK' _ _ (h _ (by rw [List.append_assoc]))
theorem cut_ext {P : Program} (t e : TypeId) (kh : IntKind) {i : TypeInfo} (ht : P.underlying t = some (.slice e)) (hi : P.info? e = some i) (A : Option Addr) (n c : Nat) (j : Int) (h0 : 0 ≤ j) (hm : j ≤ c) :
  ∀ W : World,(Instr.slice t (.slice A n c) none (some (.int kh j)) none).run P W = .ok (.slice A j.toNat c) W := by
 intro W
 have hel : P.elem t = e := by simp [Program.elem,ht]
 have hu : P.underlying t = some (.slice (P.elem t)) := by rw [hel];exact ht
 have ha : (A.map fun x => x.add 0) = A := by cases A <;> simp [Addr.add]
 rw [run_slice_h W t A n c hu kh j h0 hm,hel]
 simp [sizeOf,typeInfo,hi,sliced,Result.andThen,ha]
theorem zel {P : Program} (t e : TypeId) (kl : IntKind) {i : TypeInfo} (ht : P.underlying t = some (.slice e)) (hi : P.info? e = some i) (size : Nat) (hsz : i.size = size) (g n c j : Nat) (z : Int) (hz : z = j) (hm : j ≤ n) (hc : j < c) :
  ∀ W : World,(Instr.slice t (.slice (some ⟨g,0,none⟩) n c) (some (.int kl z)) none none).run P W = .ok (.slice (some ⟨g,j * size,none⟩) (n - j) (c - j)) W := by
 subst hz
 intro W
 have h := zgW (P := P) t e kl ht hi size hsz (some ⟨g,0,none⟩) n c (j : Int) (by omega) (by omega) W
 rw [Int.toNat_natCast,if_neg (by omega)] at h
 rw [h,Option.map_some,zbc]
theorem own_lay {w : World} {base : Nat} {e : TypeId} {size : Nat} {v : Value} {n : Nat} {xs : List Value} (h : w.ownsRow base e size v n xs) (hn : 0 < n) : ∃ g cap,∃ cur : Array Value,v = .slice (some ⟨g,0,none⟩) n cap ∧ base ≤ g ∧ w.heap[g]? = some (.cells cur e (0,0)) ∧ n ≤ cap ∧ cap ≤ maxLen ∧ cur.size = cap * size ∧ cur.toList.take (n * size) = xs := by
 rcases h.2 with ⟨_,h0⟩ | ⟨g,cap,cur,h1,h2,h3,h4,h7,h5,h6⟩
 ·omega
 ·exact ⟨g,cap,cur,h1,h2,h3,h4,h7,h5,h6⟩
theorem zcv (w : World) (g : Nat) (cs : Array Value) : w.grownBy (w.setRow g cs) (some g) := ⟨rfl,rfl,rfl,by simp [World.setRow],fun k hk hne => setRow_other w g k cs (fun e => hne (by rw [e]))⟩
theorem ins_new {α : Type} (xs cs zs cur : List α) (a b : Nat) (hb : xs.length = b) (ha : a ≤ b) (h : cur.take (b + cs.length) = xs.take a ++ zs) (hl : b + cs.length ≤ cur.length) :
  (((cur.take a ++ cs ++ cur.drop (a + cs.length)).take (a + cs.length) ++ xs.drop a ++ (cur.take a ++ cs ++ cur.drop (a + cs.length)).drop (a + cs.length + (xs.drop a).length))).take (b + cs.length) = xs.take a ++ cs ++ xs.drop a := by
 have e1 : cur.take a = xs.take a := by
  have := congrArg (List.take a) h
  rwa [List.take_take,Nat.min_eq_left (by omega),List.take_append_of_le_length (by rw [List.length_take];omega),List.take_take,Nat.min_self] at this
 have l1 : (cur.take a).length = a := by rw [List.length_take];omega
 have l2 : (cur.take a ++ cs).length = a + cs.length := by rw [List.length_append,l1]
 rw [List.take_left' l2,e1]
 have l3 : (xs.take a ++ cs ++ xs.drop a).length = b + cs.length := by simp;omega
 exact List.take_left' l3
theorem ins_here {α : Type} (xs cs cur : List α) (a b : Nat) (hb : xs.length = b) (ha : a ≤ b) (h : cur.take b = xs) (hl : b + cs.length ≤ cur.length) :
  (((cur.take (a + cs.length) ++ xs.drop a ++ cur.drop (a + cs.length + (xs.drop a).length)).take a ++ cs ++ (cur.take (a + cs.length) ++ xs.drop a ++ cur.drop (a + cs.length + (xs.drop a).length)).drop (a + cs.length))).take (b + cs.length) = xs.take a ++ cs ++ xs.drop a := by
 have e1 : cur.take a = xs.take a := by rw [← h,List.take_take,Nat.min_eq_left ha]
 have l1 : (cur.take (a + cs.length)).length = a + cs.length := by rw [List.length_take];omega
 have e2 : (cur.take (a + cs.length) ++ xs.drop a ++ cur.drop (a + cs.length + (xs.drop a).length)).take a = xs.take a := by
  rw [List.append_assoc,List.take_append_of_le_length (by omega),List.take_take,Nat.min_eq_left (by omega),e1]
 have e3 : (cur.take (a + cs.length) ++ xs.drop a ++ cur.drop (a + cs.length + (xs.drop a).length)).drop (a + cs.length) = xs.drop a ++ cur.drop (a + cs.length + (xs.drop a).length) := by
  rw [List.append_assoc,List.drop_left' l1]
 rw [e2,e3,← List.append_assoc]
 have l3 : (xs.take a ++ cs ++ xs.drop a).length = b + cs.length := by simp;omega
 exact List.take_left' l3
set_option maxHeartbeats 8000000 in
set_option maxRecDepth 100000 in
theorem ins_last (A : Option Addr) (n cap : Nat) (xs : List Value) (base : Nat) (w : World) (hown : w.ownsRow base 34 7 (.slice A n cap) n xs) (hnc : n ≤ cap) (gb : Nat) (cs : List Value) (hh : w.heap[gb]? = some (.cells cs.toArray 34 (0,0))) (hcs : cs.length = 7) (h1 : ∀ u ∈ cs,u.oneCell' = true) (hl : n < 1466015503701) (hbase : base ≤ w.heap.size) :
  Calls Try.prog 37 #[.slice A n cap,.int .i64 (n : Int),.slice (some ⟨gb,0,none⟩) 1 1] w fun e w' => ∃ v' : Value,e = .returned v' ∧ w'.ownsRow base 34 7 v' (n + 1) (xs ++ cs) ∧ w.grownBy w' (Value.slice A n cap).ownBlock := by
 obtain ⟨i0,hi0,hz0,hsz,hby⟩ := info_parts zdS
 have HO := za.mk hown
 have HI := za.mk hi0
 have HZ := za.mk hz0
 have HS := za.mk hsz
 have HY := za.mk hby
 have HBS := za.mk hbase
 have HC1 := za.mk h1
 have HCS := za.mk hcs
 have HH : za (∀ j u,cs[j]? = some u → w.cell? ((⟨gb,0,none⟩ : Addr).add j) = some u) := ⟨fun j u hj => by rw [zbc,zb hh,List.getElem?_toArray];exact hj⟩
 have hcut := zgW (P := Try.prog) 22 34 .i64 Try.underlying22 hi0 7 hsz A n cap (n : Int) (by omega) (by omega)
 obtain ⟨A2,hA2⟩ : ∃ A2,A2 = (if cap = (n : Int).toNat then A else A.map (·.add ((n : Int).toNat * 7))) := ⟨_,rfl⟩
 rw [← hA2] at hcut
 clear hA2
 have p1 : ((n : Int) ≤ (n : Int)) = True := eq_true (Int.le_refl _)
 have p2 : ((n : Int) ≤ (cap : Int)) = True := eq_true (by omega)
 clear hown hz0 hsz hby hbase h1 hcs hh hi0
 go_enter Try.func37,Try.ntmps37
 go_wp2_with (at_builtin;refine wpList_append_own _ rfl (.tmp 23) (.tmp 24) 22 rfl base 34 i0 (.agg #[.string ⟨#[]⟩,.int .i64 0,.int .i64 0,.slice none 0 0,.slice none 0 0,.int .i64 0,.int .i64 0]) 7 96 Try.underlying22 HI.out HZ.out HS.out HY.out rfl (by decide) _ n xs rfl HO.out ⟨gb,0,none⟩ 1 1 cs rfl HCS.out HH.out HC1.out ?c1 ?c2 HBS.out ?_;(case c1 => simp only [maxLen];omega);(case c2 => omega);intro v1 w1 ho hg _;have HO1 := za.mk ho;have HG1 : za (w.grownBy w1 (Value.slice A n cap).ownBlock) := ⟨hg⟩;clear ho hg)
 go_ret
 exact ⟨_,rfl,HO1.out,HG1.out⟩
set_option maxHeartbeats 16000000 in
set_option maxRecDepth 100000 in
theorem ins_grow (g n cap : Nat) (xs : List Value) (i : Nat) (hi : i < n) (base : Nat) (w : World) (hown : w.ownsRow base 34 7 (.slice (some ⟨g,0,none⟩) n cap) n xs) (hnc : cap < n + 1) (gb : Nat) (cs : List Value) (hh : w.heap[gb]? = some (.cells cs.toArray 34 (0,0))) (hcs : cs.length = 7) (h1 : ∀ u ∈ cs,u.oneCell' = true) (hx1 : ∀ u ∈ xs,u.oneCell' = true) (hl : n < 1466015503701) (hbase : base ≤ w.heap.size) :
  Calls Try.prog 37 #[.slice (some ⟨g,0,none⟩) n cap,.int .i64 (i : Int),.slice (some ⟨gb,0,none⟩) 1 1] w fun e w' => ∃ v' : Value,e = .returned v' ∧ w'.ownsRow base 34 7 v' (n + 1) (xs.take (i * 7) ++ cs ++ xs.drop (i * 7)) ∧ w.grownBy w' none := by
 obtain ⟨i0,hi0,hz0,hsz,hby⟩ := info_parts zdS
 have hxl := hown.1
 have hcn : n ≤ cap := by
  rcases hown.2 with ⟨h0,_⟩ | ⟨_,_,_,h0,_,_,h3,_⟩
  ·cases h0
  ·injection h0 with _ _ h0;omega
 obtain ⟨cur,hg,hcm,hcz,htk⟩ : ∃ cur : Array Value,w.heap[g]? = some (.cells cur 34 (0,0)) ∧ cap ≤ maxLen ∧ cur.size = cap * 7 ∧ cur.toList.take (n * 7) = xs := by
  rcases hown.2 with ⟨h0,_⟩ | ⟨g',cap',cur',h0,_,h2,_,h4,h5,h6⟩
  ·cases h0
  ·injection h0 with h7 h8 h9
   injection h7 with h7
   injection h7 with h7 _ _
   subst h7;subst h9
   exact ⟨cur',h2,h4,h5,h6⟩
 have HG := za.mk hg
 have HXL := za.mk hxl
 have HSZ : za ((Try.prog.info? 34).map (·.size) = some 7) := ⟨by rw [hi0,Option.map_some,hsz]⟩
 have HI := za.mk hi0
 have HZ := za.mk hz0
 have HS := za.mk hsz
 have HY := za.mk hby
 have HBS := za.mk hbase
 have HC1 := za.mk h1
 have HX1 := za.mk hx1
 have HCS := za.mk hcs
 have HH0 := za.mk hh
 have HCL : za (∀ j u,xs[j]? = some u → w.cell? ⟨g,j,none⟩ = some u) := ⟨fun j u hj => by
  rw [zb hg,← Array.getElem?_toList]
  rw [← htk,List.getElem?_take] at hj
  split at hj
  ·exact hj
  ·cases hj⟩
 have hcutA := zel (P := Try.prog) 22 34 .i64 Try.underlying22 hi0 7 hsz g n cap i (i : Int) rfl (by omega) (by omega)
 have hcutB := cut_to (P := Try.prog) 22 34 .i64 Try.underlying22 hi0 (some ⟨g,0,none⟩) n cap (i : Int) (by omega) (by omega) hcn
 rw [Int.toNat_natCast] at hcutB
 have c1 : ((i : Int) == (n : Int)) = false := beq_eq_false_iff_ne.2 (by omega)
 have c1b : (i == n) = false := beq_eq_false_iff_ne.2 (by omega)
 have c2 : decide ((cap : Int) < (n : Int) + 1) = true := decide_eq_true (by omega)
 have c2b : decide (cap < n + 1) = true := decide_eq_true (by omega)
 have p1 : ((i : Int) ≤ (n : Int)) = True := eq_true (by omega)
 have p2 : ((i : Int) ≤ (cap : Int)) = True := eq_true (by omega)
 clear hown hz0 hsz hby hbase h1 hx1 hcs hh hi0 hg hcm hcz htk
 go_enter Try.func37,Try.ntmps37
 go_wp2_with (first
  | (at_builtin;refine zeg _ rfl (.tmp 34) (.tmp 39) 22 3 rfl 34 i0 (.agg #[.string ⟨#[]⟩,.int .i64 0,.int .i64 0,.slice none 0 0,.slice none 0 0,.int .i64 0,.int .i64 0]) 7 96 Try.underlying22 Try.underlying3 HI.out HZ.out HS.out HY.out rfl (by decide) (by decide) ⟨g,0,none⟩ i cap (xs.take (i * 7)) rfl ?c1 ?c2 .i64 (n + 1 - i) ?c3 (by omega) (by omega) (by omega) ?_;(case c1 => (rw [List.length_take,HXL.out];omega));(case c2 => (intro j u hj;rw [zbc];rw [List.getElem?_take] at hj;split at hj;exact HCL.out j u hj;cases hj));(case c3 => (show Value.int IntKind.i64 ((n : Int) + 1 - (i : Int)) = _;congr 1;omega));intro v1 w1 ho hg;obtain ⟨g',cap',cur',rfl,hbg,hh',hle',hcm',hcz',htk'⟩ := own_lay (show w1.ownsRow w.heap.size 34 7 v1 (n + 1) _ from (show i + (n + 1 - i) = n + 1 by omega) ▸ ho) (by omega);have HG1 := za.mk hg;have HH' := za.mk hh';have HB' := za.mk hbg;have HCM := za.mk hcm';clear hcm';have HCZ := za.mk hcz';have HTK := za.mk htk';clear ho hg hh' hbg hcz' htk';have hcutC := zel (P := Try.prog) 22 34 .i64 Try.underlying22 HI.out 7 HS.out g' (n + 1) cap' i (i : Int) rfl (by omega) (by omega);have hcutD := zel (P := Try.prog) 22 34 .i64 Try.underlying22 HI.out 7 HS.out g' (n + 1) cap' (i + 1) ((i : Int) + 1) (by omega) (by omega) (by omega);have q1 : ((i : Int) ≤ (n : Int) + 1) = True := eq_true (by omega);have q2 : ((i : Int) + 1 ≤ (n : Int) + 1) = True := eq_true (by omega);have q3 : ((i : Int) ≤ (cap' : Int)) = True := eq_true (by omega);have q4 : ((i : Int) + 1 ≤ (cap' : Int)) = True := eq_true (by omega))
  | (refine zby _ rfl (.tmp 43) (.tmp 44) 22 22 rfl 34 7 Try.underlying22 HSZ.out g' (i * 7) (n + 1 - i) (cap' - i) ⟨gb,0,none⟩ 1 1 rfl rfl cur' 34 HH'.out cs ?d1 ?d2 ?d3 HC1.out ?_;(case d1 => (rw [HCS.out];show 7 = min 1 (n + 1 - i) * 7;rw [Nat.min_eq_left (by omega)]));(case d2 => (intro j u hj;rw [zbc,zb (zaJ HH0.out HG1.out (by simp)),List.getElem?_toArray];exact hj));(case d3 => (rw [HCS.out,HCZ.out];omega));intro w2 hw2;have HW2 := za.mk hw2;clear hw2))
 have HG2 : za (w1.grownBy w2 (some g')) := ⟨by rw [HW2.out];exact zcv w1 g' _⟩
 have HGG : za (g ≠ g') := ⟨fun he => by have := zam HG.out;have := HB'.out;omega⟩
 have HN2 : za (w2.heap[g']? = some (.cells (cur'.toList.take (i * 7) ++ cs ++ cur'.toList.drop (i * 7 + cs.length)).toArray 34 (0,0))) := ⟨by rw [HW2.out];exact setRow_heap w1 g' _ _ _ _ HH'.out⟩
 have HC2 : za (∀ j u,(xs.drop (i * 7))[j]? = some u → w2.cell? ((⟨g,i * 7,none⟩ : Addr).add j) = some u) := ⟨fun j u hj => by
  rw [List.getElem?_drop] at hj
  have h1 := zaJ (zaJ HG.out HG1.out (by simp)) HG2.out (fun he => HGG.out (by injection he))
  have h0 := HCL.out _ u hj
  rw [zb HG.out] at h0
  rw [ze7,zb h1]
  exact h0⟩
 have HNE : za (w.grownBy w2 none) := ⟨⟨HG2.out.os.trans HG1.out.os,HG2.out.tape.trans HG1.out.tape,HG2.out.output.trans HG1.out.output,Nat.le_trans HG1.out.size HG2.out.size,fun k hk _ => (HG2.out.block k (Nat.lt_of_lt_of_le hk HG1.out.size) (fun he => by injection he with he;have := HB'.out;omega)).trans (HG1.out.block k hk (by simp))⟩⟩
 have s1 : IntKind.i64.wrap ((i : Int) + 1) = (i : Int) + 1 := IntWalk.i64_in _ (by omega)
 clear c1 c1b c2 c2b
 go_still_tail 8,(by kernel_rfl)
 change wpList _ _ _ _ _ w2.drew
 refine zby _ rfl (.tmp 50) (.tmp 53) 22 22 rfl 34 7 Try.underlying22 HSZ.out g' ((i + 1) * 7) (n - i) (cap' - (i + 1)) ⟨g,i * 7,none⟩ (n - i) (cap - i) rfl rfl _ 34 (zG HN2.out) (xs.drop (i * 7)) ?f1 (fun j u hj => HC2.out j u hj) ?f3 (fun u hu => HX1.out u (List.mem_of_mem_drop hu)) ?_
 case f1 => (rw [List.length_drop,HXL.out];show _ = min (n - i) (n - i) * 7;rw [Nat.min_self];omega)
 case f3 =>
  have h1 : (cur'.toList.take (i * 7) ++ cs ++ cur'.toList.drop (i * 7 + cs.length)).toArray.size = cur'.size := by
   simp only [List.size_toArray,List.length_append,List.length_take,List.length_drop,Array.length_toList]
   have := HCZ.out;have := HCS.out;omega
  rw [h1,List.length_drop,HXL.out];have := HCZ.out;omega
 intro w3 hw3
 have HW3 := za.mk hw3
 clear hw3
 clear hcutA hcutB hcutC hcutD s1 q1 q2 q3 q4 p1 p2
 go_wp2
 go_ret
 have HG3 : w2.drew.grownBy w3 (some g') := by rw [HW3.out];exact zcv _ g' _
 have HN3 : w3.heap[g']? = some (.cells (((cur'.toList.take (i * 7) ++ cs ++ cur'.toList.drop (i * 7 + cs.length)).toArray).toList.take ((i + 1) * 7) ++ xs.drop (i * 7) ++ ((cur'.toList.take (i * 7) ++ cs ++ cur'.toList.drop (i * 7 + cs.length)).toArray).toList.drop ((i + 1) * 7 + (xs.drop (i * 7)).length)).toArray 34 (0,0)) := by rw [HW3.out];exact setRow_heap _ g' _ _ _ _ (zG HN2.out)
 refine ⟨_,rfl,⟨?_,.inr ⟨g',cap',_,rfl,Nat.le_trans HBS.out HB'.out,HN3,by omega,HCM.out,?_,?_⟩⟩,⟨HG3.os.trans HNE.out.os,HG3.tape.trans HNE.out.tape,HG3.output.trans HNE.out.output,Nat.le_trans HNE.out.size HG3.size,fun k hk _ => (HG3.block k (Nat.lt_of_lt_of_le hk HNE.out.size) (fun he => by injection he with he;have := HB'.out;omega)).trans (HNE.out.block k hk (by simp))⟩⟩
 ·simp only [List.length_append,List.length_take,List.length_drop,HXL.out,HCS.out];omega
 ·simp only [List.size_toArray,List.length_append,List.length_take,List.length_drop,Array.length_toList,HXL.out,HCS.out,HCZ.out];omega
 ·have h1 := ins_new xs cs ((Builtin.zeroCells (Value.cells (.agg #[.string ⟨#[]⟩,.int .i64 0,.int .i64 0,.slice none 0 0,.slice none 0 0,.int .i64 0,.int .i64 0])) (n + 1 - i)).toList) cur'.toList (i * 7) (n * 7) HXL.out (by omega) (by rw [HCS.out];have h0 := HTK.out;rwa [Nat.add_mul,Nat.one_mul] at h0) (by rw [HCS.out,Array.length_toList,HCZ.out];omega)
  rw [HCS.out] at h1
  simpa [HCS.out,Nat.add_mul] using h1
set_option maxHeartbeats 16000000 in
set_option maxRecDepth 100000 in
theorem ins_room (g n cap : Nat) (xs : List Value) (i : Nat) (hi : i < n) (base : Nat) (w : World) (hown : w.ownsRow base 34 7 (.slice (some ⟨g,0,none⟩) n cap) n xs) (hnc : n + 1 ≤ cap) (gb : Nat) (hgb : gb ≠ g) (cs : List Value) (hh : w.heap[gb]? = some (.cells cs.toArray 34 (0,0))) (hcs : cs.length = 7) (h1 : ∀ u ∈ cs,u.oneCell' = true) (hx1 : ∀ u ∈ xs,u.oneCell' = true) (hl : n < 1466015503701) (hbase : base ≤ w.heap.size) :
  Calls Try.prog 37 #[.slice (some ⟨g,0,none⟩) n cap,.int .i64 (i : Int),.slice (some ⟨gb,0,none⟩) 1 1] w fun e w' => ∃ v' : Value,e = .returned v' ∧ w'.ownsRow base 34 7 v' (n + 1) (xs.take (i * 7) ++ cs ++ xs.drop (i * 7)) ∧ w.grownBy w' (some g) := by
 obtain ⟨i0,hi0,hz0,hsz,hby⟩ := info_parts zdS
 have hxl := hown.1
 have hcn : n ≤ cap := by
  rcases hown.2 with ⟨h0,_⟩ | ⟨_,_,_,h0,_,_,h3,_⟩
  ·cases h0
  ·injection h0 with _ _ h0;omega
 obtain ⟨cur,hg,hcm,hcz,htk⟩ : ∃ cur : Array Value,w.heap[g]? = some (.cells cur 34 (0,0)) ∧ cap ≤ maxLen ∧ cur.size = cap * 7 ∧ cur.toList.take (n * 7) = xs := by
  rcases hown.2 with ⟨h0,_⟩ | ⟨g',cap',cur',h0,_,h2,_,h4,h5,h6⟩
  ·cases h0
  ·injection h0 with h7 h8 h9
   injection h7 with h7
   injection h7 with h7 _ _
   subst h7;subst h9
   exact ⟨cur',h2,h4,h5,h6⟩
 have HG := za.mk hg
 have HXL := za.mk hxl
 have HSZ : za ((Try.prog.info? 34).map (·.size) = some 7) := ⟨by rw [hi0,Option.map_some,hsz]⟩
 have HI := za.mk hi0
 have HZ := za.mk hz0
 have HS := za.mk hsz
 have HY := za.mk hby
 have HBS := za.mk hbase
 have HC1 := za.mk h1
 have HX1 := za.mk hx1
 have HCS := za.mk hcs
 have HH0 := za.mk hh
 have HCL : za (∀ j u,xs[j]? = some u → w.cell? ⟨g,j,none⟩ = some u) := ⟨fun j u hj => by
  rw [zb hg,← Array.getElem?_toList]
  rw [← htk,List.getElem?_take] at hj
  split at hj
  ·exact hj
  ·cases hj⟩
 have hcutA := zel (P := Try.prog) 22 34 .i64 Try.underlying22 hi0 7 hsz g n cap i (i : Int) rfl (by omega) (by omega)
 have hcutB := cut_ext (P := Try.prog) 22 34 .i64 Try.underlying22 hi0 (some ⟨g,0,none⟩) n cap ((n : Int) + 1) (by omega) (by omega)
 rw [show ((n : Int) + 1).toNat = n + 1 by omega] at hcutB
 have hcutC := zel (P := Try.prog) 22 34 .i64 Try.underlying22 hi0 7 hsz g (n + 1) cap (i + 1) ((i : Int) + 1) (by omega) (by omega) (by omega)
 have hcutD := zel (P := Try.prog) 22 34 .i64 Try.underlying22 hi0 7 hsz g (n + 1) cap i (i : Int) rfl (by omega) (by omega)
 have HLEN := za.mk hcz
 have HNG := za.mk hgb
 have HBG : za (base ≤ g) := ⟨zcB hown g rfl⟩
 have HCM := za.mk hcm
 have HTK := za.mk htk
 have hov : ∀ (o lb cb : Nat),(callFunc 53 #[.slice (some ⟨gb,0,none⟩) 1 1,.slice (some ⟨g,o,none⟩) lb cb]).run Try.prog w = .ok (.value (.bool false)) w := fun o lb cb => by
  rw [run_callFunc_extern Try.func53 (by kernel_rfl) rfl (by kernel_rfl) rfl]
  show ((Extern.SlicesOverlaps.overlaps #[22,22] #[4] #[.slice (some ⟨gb,0,none⟩) 1 1,.slice (some ⟨g,o,none⟩) lb cb]).run Try.prog w).andThen (fun v w' => Result.ok (Next.value v) w') = _
  rw [zhV w 22 _ 34 gb g 1 1 o lb cb 7 _ _ 34 34 22 Try.underlying22 HSZ.out hh hg hgb]
  rfl
 have c1 : ((i : Int) == (n : Int)) = false := beq_eq_false_iff_ne.2 (by omega)
 have c1b : (i == n) = false := beq_eq_false_iff_ne.2 (by omega)
 have c2 : decide ((cap : Int) < (n : Int) + 1) = false := decide_eq_false (by omega)
 have c2b : decide (cap < n + 1) = false := decide_eq_false (by omega)
 have p1 : ((i : Int) ≤ (n : Int)) = True := eq_true (by omega)
 have p2 : ((i : Int) ≤ (cap : Int)) = True := eq_true (by omega)
 clear hown hz0 hsz hby hbase h1 hx1 hcs hh hi0 hg hcm hcz htk hgb
 go_enter Try.func37,Try.ntmps37
 go_wp2_with fail
 have s1 : IntKind.i64.wrap ((i : Int) + 1) = (i : Int) + 1 := IntWalk.i64_in _ (by omega)
 have q1 : ((i : Int) ≤ (n : Int) + 1) = True := eq_true (by omega)
 have q2 : ((i : Int) + 1 ≤ (n : Int) + 1) = True := eq_true (by omega)
 have q3 : ((i : Int) + 1 ≤ (cap : Int)) = True := eq_true (by omega)
 clear c1 c1b c2 c2b hov
 go_still_tail 8,(by kernel_rfl)
 change wpList _ _ _ _ _ w.drew
 refine zby _ rfl (.tmp 73) (.tmp 76) 22 22 rfl 34 7 Try.underlying22 HSZ.out g ((i + 1) * 7) (n - i) (cap - (i + 1)) ⟨g,i * 7,none⟩ (n + 1 - i) (cap - i) rfl rfl cur 34 (zG HG.out) (xs.drop (i * 7)) ?f1 ?f2 ?f3 (fun u hu => HX1.out u (List.mem_of_mem_drop hu)) ?_
 case f1 => (rw [List.length_drop,HXL.out];show _ = min (n + 1 - i) (n - i) * 7;rw [Nat.min_eq_right (by omega)];omega)
 case f2 => (intro j u hj;rw [List.getElem?_drop] at hj;rw [ze7];exact HCL.out _ u hj)
 case f3 => (rw [List.length_drop,HXL.out,HLEN.out];omega)
 intro w2 hw2
 have HG2 : za (w.drew.grownBy w2 (some g)) := ⟨by rw [hw2];exact zcv _ g _⟩
 have HN2 : za (w2.heap[g]? = some (.cells (cur.toList.take ((i + 1) * 7) ++ xs.drop (i * 7) ++ cur.toList.drop ((i + 1) * 7 + (xs.drop (i * 7)).length)).toArray 34 (0,0))) := ⟨by rw [hw2];exact setRow_heap _ g _ _ _ _ (zG HG.out)⟩
 have HL2 : za (((cur.toList.take ((i + 1) * 7) ++ xs.drop (i * 7) ++ cur.toList.drop ((i + 1) * 7 + (xs.drop (i * 7)).length)).toArray).size = cap * 7) := ⟨by
  simp only [List.size_toArray,List.length_append,List.length_take,List.length_drop,Array.length_toList,HXL.out,HLEN.out];omega⟩
 have HS2 : za (∀ j u,cs[j]? = some u → w2.cell? ((⟨gb,0,none⟩ : Addr).add j) = some u) := ⟨fun j u hj => by rw [zbc,zb (zaJ (zG HH0.out) HG2.out (fun he => HNG.out (by injection he))),List.getElem?_toArray];exact hj⟩
 clear hw2 hcutC q2 q3 s1
 go_wp2_with (refine zby _ rfl (.tmp 80) (.tmp 81) 22 22 rfl 34 7 Try.underlying22 HSZ.out g (i * 7) (n + 1 - i) (cap - i) ⟨gb,0,none⟩ 1 1 rfl rfl _ 34 HN2.out cs ?d1 HS2.out ?d3 HC1.out ?_;(case d1 => (rw [HCS.out];show 7 = min 1 (n + 1 - i) * 7;rw [Nat.min_eq_left (by omega)]));(case d3 => (rw [HL2.out,HCS.out];omega));intro w3 hw3;have HW3 := za.mk hw3;clear hw3)
 go_ret
 have HG3 : w2.grownBy w3 (some g) := by rw [HW3.out];exact zcv _ g _
 have HN3 : w3.heap[g]? = some (.cells (((cur.toList.take ((i + 1) * 7) ++ xs.drop (i * 7) ++ cur.toList.drop ((i + 1) * 7 + (xs.drop (i * 7)).length)).toArray).toList.take (i * 7) ++ cs ++ ((cur.toList.take ((i + 1) * 7) ++ xs.drop (i * 7) ++ cur.toList.drop ((i + 1) * 7 + (xs.drop (i * 7)).length)).toArray).toList.drop (i * 7 + cs.length)).toArray 34 (0,0)) := by rw [HW3.out];exact setRow_heap _ g _ _ _ _ HN2.out
 refine ⟨_,rfl,⟨?_,.inr ⟨g,cap,_,rfl,HBG.out,HN3,by omega,HCM.out,?_,?_⟩⟩,World.grownBy.trans (show w.grownBy w2 (some g) from ⟨HG2.out.os,HG2.out.tape,HG2.out.output,HG2.out.size,HG2.out.block⟩) HG3⟩
 ·simp only [List.length_append,List.length_take,List.length_drop,HXL.out,HCS.out];omega
 ·simp only [List.size_toArray,List.length_append,List.length_take,List.length_drop,Array.length_toList,HXL.out,HCS.out,HLEN.out];omega
 ·have h1 := ins_here xs cs cur.toList (i * 7) (n * 7) HXL.out (by omega) HTK.out (by rw [HCS.out,Array.length_toList,HLEN.out];omega)
  rw [HCS.out] at h1
  simpa [HCS.out,Nat.add_mul] using h1
def RE (w0 : World) (P : Nat → Prop) (x : Ent) (cs : List Value) : Prop := Kd.FK k34 w0 P x cs
abbrev zeh (w0 : World) (P : Nat → Prop) (W : World) (base : Nat) (v : Value) (L : List Ent) : Prop := zaS (RE w0 P) 34 7 W base v L
theorem zgh {w0 : World} {P : Nat → Prop} {x : Ent} {cs : List Value} (h : RE w0 P x cs) : cs.length = 7 := (k34).K_len (Kd.FK_now h)
theorem ze5 {w0 : World} {P : Nat → Prop} {x : Ent} {cs : List Value} (h : RE w0 P x cs) : ∀ u ∈ cs,u.oneCell' = true := (k34).K_one (Kd.FK_now h)
theorem OwnE_V {w0 W : World} {P : Nat → Prop} {base b e : Nat} {v : Value} {L : List Ent} (h : zeh w0 P W base v L) (hb : Below w0.heap.size w0 W) (hbase : w0.heap.size ≤ base) : Kd.V k34 e W b (fun k_ => P k_ ∨ w0.heap.size ≤ k_) v L := by
 obtain ⟨inner,ho,hr⟩ := h
 obtain ⟨A,c,rfl,hc,_⟩ := zaS.reads (⟨inner,ho,hr⟩ : zeh w0 P W base v L)
 refine Kd.V_mk hc (fun W' hW => ?_)
 have ho' : W'.ownsRow base 34 7 (.slice A L.length c) L.length inner := zfv ho (fun k hk => hW k (.inr (Nat.le_trans hbase (zcB ho k hk))) (zgA ho k hk))
 obtain ⟨A',c',he,_,hrd⟩ := zaS.reads (⟨inner,ho',zao.imp_ hr (fun x cs hx => hx W' (fun k hP hk => (hW k (.inl hP) (Nat.lt_of_lt_of_le hk hb.size)).trans (hb.block k hk)))⟩ : zaS ((k34).K W') 34 7 W' base (.slice A L.length c) L)
 injection he with h1 _ _
 subst h1
 exact hrd
theorem ziv {w w' : World} (h : w.grownBy w' none) (row : Option Nat) : w.grownBy w' row := ⟨h.os,h.tape,h.output,h.size,fun k hk _ => h.block k hk (by simp)⟩
theorem zgZ (w0 : World) (P : Nat → Prop) (w : World) (base : Nat) (v : Value) (L : List Ent) (i : Nat) (hi : i ≤ L.length) (x : Ent) (gb : Nat) (cs : List Value) (ho : zeh w0 P w base v L) (hh : w.heap[gb]? = some (.cells cs.toArray 34 (0,0))) (hx : RE w0 P x cs) (hgb : some gb ≠ v.ownBlock) (hbase : base ≤ w.heap.size) (hl : L.length < 1466015503701) :
  Calls Try.prog 37 #[v,.int .i64 (i : Int),.slice (some ⟨gb,0,none⟩) 1 1] w fun e w' => ∃ v' : Value,e = .returned v' ∧ zeh w0 P w' base v' (L.take i ++ x :: L.drop i) ∧ w.grownBy w' v.ownBlock := by
 obtain ⟨inner,ho,hr⟩ := ho
 have hlen := hr.1
 have key : ∀ cs',cs' = inner.take (i * 7) ++ cs ++ inner.drop (i * 7) → zao (RE w0 P) 7 (L.take i ++ x :: L.drop i) cs' := fun cs' he => by
  rw [he,show L.take i ++ x :: L.drop i = L.take i ++ [x] ++ L.drop i by simp]
  exact Kd.reps_append (zao.snoc (Kd.reps_take hr hi) hx (zgh hx)) (Kd.reps_drop hr)
 have hln : (L.take i ++ x :: L.drop i).length = L.length + 1 := by simp;omega
 obtain ⟨A,cap,rfl⟩ := ziE ho
 have hnc : L.length ≤ cap := by
  rcases ho.2 with ⟨h0,h1⟩ | ⟨_,_,_,h0,_,_,h3,_⟩
  ·rw [h1];exact Nat.zero_le _
  ·injection h0 with _ _ h0;omega
 by_cases hin : i = L.length
 ·subst hin
  refine (ins_last A L.length cap inner base w ho hnc gb cs hh (zgh hx) (ze5 hx) hl hbase).mono ?_
  rintro e w' ⟨v',rfl,h1,h2⟩
  refine ⟨v',rfl,⟨_,by rw [hln];exact h1,key _ ?_⟩,h2⟩
  rw [List.take_of_length_le (by omega),List.drop_of_length_le (by omega),List.append_nil]
 ·rcases ho.2 with ⟨_,h1⟩ | ⟨g,cap',cur,h0,h1⟩
  ·omega
  injection h0 with h2 _ h3
  subst h2;subst h3
  have hone := Kd.reps_one hr (by decide) (fun p c hp => ze5 hp)
  by_cases hcap : cap < L.length + 1
  ·refine (ins_grow g L.length cap inner i (by omega) base w ho hcap gb cs hh (zgh hx) (ze5 hx) hone hl hbase).mono ?_
   rintro e w' ⟨v',rfl,h4,h5⟩
   exact ⟨v',rfl,⟨_,by rw [hln];exact h4,key _ rfl⟩,ziv h5 _⟩
  ·refine (ins_room g L.length cap inner i (by omega) base w ho (by omega) gb (fun he => hgb (by rw [he];rfl)) cs hh (zgh hx) (ze5 hx) hone hl hbase).mono ?_
   rintro e w' ⟨v',rfl,h4,h5⟩
   exact ⟨v',rfl,⟨_,by rw [hln];exact h4,key _ rfl⟩,h5⟩
set_option maxHeartbeats 4000000 in
set_option maxRecDepth 100000 in
theorem zhG (w0 : World) (P : Nat → Prop) (w : World) (A : Option Addr) (c : Nat) (L : List Ent) (hf : Kd.F k34 w0 P A L.length L) (hb : Below w0.heap.size w0 w) (hl : L.length < 1466015503701) :
  Calls Try.prog 38 #[.slice A L.length c] w fun e w' => ∃ v' : Value,e = .returned v' ∧ zeh w0 P w' w.heap.size v' L ∧ Below w.heap.size w w' := by
 have hrows := Kd.F_rows hf
 have heq := Lib.run_eql_slice_nil w 22 34 A L.length c 0 0 Try.underlying22
 rcases A with _ | ad
 ·have hn : L = [] := by
   rcases L with _ | ⟨y,L⟩
   ·rfl
   ·obtain ⟨ad,h0,_⟩ := hrows.2.2 (by simp)
    cases h0
  subst hn
  clear hrows hf
  simp only [List.length_nil,Option.isNone_none] at heq ⊢
  go_enter Try.func38,Try.ntmps38
  go_wp2_with fail
  go_ret
  exact ⟨_,rfl,zaS.none_ _ _ _ _ _,Below.refl _ _⟩
 ·obtain ⟨inner,hr,hcell⟩ := hrows.inner_
  simp only [Option.isNone_some] at heq
  obtain ⟨i0,hi0,hz0,hsz,hby⟩ := info_parts zdS
  have hone := Kd.reps_one hr (by decide) (fun p c hp => ze5 (w0 := w0) (P := P) hp)
  have hil : inner.length = L.length * 7 := hr.1
  have HL : za (∀ (o : Obj) j u,inner[j]? = some u → (w.alloc o).cell? (ad.add j) = some u) := ⟨fun o j u hj => ((hb.alloc hb.size o).cell (World.block_lt_of_cell? w0 _ (hcell j u hj))).trans (hcell j u hj)⟩
  have HI := za.mk hi0
  have HZ := za.mk hz0
  have HS := za.mk hsz
  have HY := za.mk hby
  have HO := za.mk hone
  have HN := za.mk hil
  have HR := za.mk hr
  clear hi0 hz0 hsz hby hone hil hr hcell hrows hf hb
  go_enter Try.func38,Try.ntmps38
  go_wp2_with (at_builtin;refine wpList_append_own _ rfl (.tmp 5) (.tmp 6) 22 rfl w.heap.size 34 i0 (.agg #[.string ⟨#[]⟩,.int .i64 0,.int .i64 0,.slice none 0 0,.slice none 0 0,.int .i64 0,.int .i64 0]) 7 96 Try.underlying22 HI.out HZ.out HS.out HY.out rfl (by decide) (.slice (some ⟨w.heap.size,0,none⟩) 0 0) 0 [] rfl ⟨rfl,.inr ⟨w.heap.size,0,#[],rfl,Nat.le_refl _,heap_alloc_new w _,Nat.le_refl _,Nat.zero_le _,rfl,rfl⟩⟩ ad L.length c inner rfl HN.out (HL.out _) HO.out ?c1 ?c2 (by simp) ?_;(case c1 => simp only [maxLen];omega);(case c2 => omega);intro v1 w1 ho hg _;have HO1 := za.mk ho;have HG1 := za.mk hg;clear ho hg)
  go_ret
  refine ⟨_,rfl,⟨inner,?_,HR.out⟩,?_⟩
  ·have h_ := HO1.out
   rwa [Nat.zero_add,List.nil_append] at h_
  ·exact zcD (zi (Below.refl w.heap.size w) _) _ (by simp) HG1.out (fun k hk => Nat.le_of_eq (by simpa [Value.ownBlock] using hk))
end Go.Proofs.Ytndjfdakflaggaa.Px