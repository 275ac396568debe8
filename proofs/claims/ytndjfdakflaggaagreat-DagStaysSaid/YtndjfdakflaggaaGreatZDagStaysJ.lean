/- Part 10 of 15 of the proof of the law DagStays: what is proved is the statement at the end of the last part; its conditions are those of the given row. -/
import Derived.Laws.CopyOwn
import Derived.Laws.CopyRow
import Derived.Laws.Externs
import GoSem.Extern.SlicesOverlaps
import Derived.WalkSpells
import Derived.Test.YtndjfdakflaggaaGreatZDagStaysI
namespace Go.Proofs.YtndjfdakflaggaaGreat.Px
open Go.RowKit Go.Proofs.YtndjfdakflaggaaGreatW.PrintWords Go.Proofs.YtndjfdakflaggaaGreatW.PrintLast Go.Proofs.YtndjfdakflaggaaGreatW.PrintMore
attribute [local go_sem] zA zC zH zI zv zw zB zD
set_option linter.unusedVariables false
set_option linter.unusedSimpArgs false
theorem zfU {P : Program} (w : World) (t ti ty e : TypeId) (i : TypeInfo) (z : Value) (size bytes : Nat) (ht : P.underlying t = some (.slice e)) {k : IntKind} (hti : P.underlying ti = some (.int k)) (hi : P.info? e = some i) (hz : i.zero = some z)
  (hsize : i.size = size) (hby : i.bytes = bytes) (hzs : z.cells.size = size) (hsz : 0 < size) (hb0 : 0 < bytes)
  (b : Addr) (n cap : Nat) (olds : List Value) (hlo : olds.length = n * size) (holds : ∀ j u,olds[j]? = some u → w.cell? (b.add j) = some u) (kx : IntKind) (m : Nat) (hm : 0 < m)
  (hg : cap < n + m) (hbytes : (n + m) * bytes ≤ 140737488355328) :
  ∃ v' w',(Builtin.append_ #[t,ti] ty #[.slice (some b) n cap,.int kx m]).run P w = .ok v' w' ∧ w'.ownsRow w.heap.size e size v' (n + m) (olds ++ (Builtin.zeroCells z.cells m).toList) ∧ w.grownBy w' none := by
 subst hsize
 subst hby
 have hle : n + m ≤ 140737488355328 := Nat.le_trans (Nat.le_mul_of_pos_right _ hb0) hbytes
 have h63 : n + m ≤ maxLen := by simp only [maxLen];omega
 have hw : IntKind.i64.wrap (m : Int) = m := by rw [IntKind.wrap_i64];omega
 have hneg : ¬ ((m : Int) < 0) := by omega
 have hmb : m * i.bytes ≤ 140737488355328 := Nat.le_trans (Nat.mul_le_mul_right _ (Nat.le_add_left m n)) hbytes
 have hbig : ¬ (281474976710656 < (m : Int) * (i.bytes : Int)) := by
  rw [← Int.natCast_mul]
  omega
 have hsn : i.size ≠ 0 := by omega
 obtain ⟨news,hnews⟩ : ∃ news,news = (Builtin.zeroCells z.cells m).toList := ⟨_,rfl⟩
 rw [← hnews]
 have hl : news.length = m * i.size := by rw [hnews,Array.length_toList,size_zeroCells,hzs]
 have hna : Builtin.zeroCells z.cells m = news.toArray := by rw [hnews]
 have hlen : (olds ++ news).length = (n + m) * i.size := by rw [List.length_append,hlo,hl,Nat.add_mul]
 have hge := grownCap_ge w (n + m) cap e
 have hcm : grownCap w (n + m) cap e ≤ maxLen := grownCap_le_maxLen w (n + m) cap e h63
 have hn : ¬ (n + m ≤ cap) := by omega
 have h63' : ¬ (9223372036854775807 < ((n : Int) + (m : Int))) := by omega
 have hfit := growslice_fits hg hbytes
 have h48' : ¬ (281474976710656 < Builtin.nextslicecap (n + m) cap * i.bytes) := by omega
 have hmz : ¬ (m * i.size = 0) := Nat.mul_ne_zero (by omega) hsn
 have hfo := run_firstCells_some (P := P) w.drew i.size n b n cap olds hlo (by simpa using holds)
 refine ⟨.slice (some ⟨w.heap.size,0,none⟩) (n + m) (grownCap w (n + m) cap e),w.drew.alloc (.cells (olds.toArray ++ news.toArray ++ Builtin.zeroCells z.cells (grownCap w (n + m) cap e - (n + m))) e),?_,⟨hlen,.inr ⟨w.heap.size,_,_,rfl,Nat.le_refl _,heap_alloc_new w.drew _,hge,hcm,?_,?_⟩⟩,⟨rfl,rfl,rfl,by simp,fun k hk _ => heap_alloc_old w.drew _ hk⟩⟩
 ·simp [Builtin.append_,run_underlying ht,run_underlying hti,Go.sizeOf,typeInfo,zeroValue,hi,hz,asInt,asIntOf,hw,hneg,hbig,hn,h63',h48',Question.forced,hfo,newRow,grownCap,hmz,hna]
  congr 2
  apply Array.ext'
  simp [List.append_assoc]
 ·simp only [Array.size_append,List.size_toArray,size_zeroCells,hzs,hlo,hl,← Nat.add_mul]
  congr 1
  omega
 ·simp only [Array.toList_append,List.append_assoc]
  rw [← List.append_assoc,← hlen]
  exact List.take_left
theorem rows_copy {P : Program} (w : World) (dT sT ty elem : TypeId) (g o dLen dCap : Nat) (a : Addr) (sLen sCap : Nat) (cur : Array Value) (t : TypeId) (cs : List Value) (size : Nat)
  (hu : P.underlying dT = some (.slice elem)) (hs : (P.info? elem).map (·.size) = some size)
  (hg : w.heap[g]? = some (.cells cur t (0,0))) (hn : cs.length = Nat.min sLen dLen * size)
  (hsrc : ∀ j v,cs[j]? = some v → w.cell? (a.add j) = some v) (hfit : o + cs.length ≤ cur.size) (h1 : ∀ v ∈ cs,v.oneCell' = true) :
  (Builtin.copy_ #[dT,sT] ty #[.slice (some ⟨g,o,none⟩) dLen dCap,.slice (some a) sLen sCap]).run P w =
   .ok (goInt (Nat.min sLen dLen)) (w.setRow g (cur.toList.take o ++ cs ++ cur.toList.drop (o + cs.length)).toArray) := by
 have hl := run_loadCells_list (P := P) w a cs hsrc
 have hst := run_storeCells_at P g o t cs 0 cur w hg (by simpa using hfit) h1
 cases hq : P.info? elem with
 | none => simp [hq] at hs
 | some i =>
  have hi : i.size = size := by simpa [hq] using hs
  simp [Builtin.copy_,run_underlying hu,Builtin.lenOf,Builtin.firstCells,Go.sizeOf,typeInfo,hq,hi,← hn,hl,hst]
theorem rows_clear {P : Program} (w : World) (t ty elem : TypeId) (g o n c : Nat) (cur : Array Value) (e : TypeId) (z : Value)
  (hu : P.underlying t = some (.slice elem)) (hz : (zeroValue elem).run P w = .ok z w) (hg : w.heap[g]? = some (.cells cur e (0,0))) (hfit : o + (Builtin.zeroCells z.cells n).size ≤ cur.size) (h1 : ∀ v ∈ (Builtin.zeroCells z.cells n).toList,v.oneCell' = true) (hn : 0 < n) :
  (Builtin.clear_ #[t] ty #[.slice (some ⟨g,o,none⟩) n c]).run P w = .ok (.tuple #[]) (w.setRow g (cur.toList.take o ++ (Builtin.zeroCells z.cells n).toList ++ cur.toList.drop (o + (Builtin.zeroCells z.cells n).size)).toArray) := by
 have hst := run_storeCells_at P g o e (Builtin.zeroCells z.cells n).toList 0 cur w hg (by simpa using hfit) h1
 obtain ⟨m,rfl⟩ : ∃ m,n = m + 1 := ⟨n - 1,by omega⟩
 simp [Builtin.clear_,run_underlying hu,hz,hst]
theorem rows_apart {P : Program} (w : World) (T : TypeId) (rs : Array TypeId) (elem : TypeId) (a b : Nat) (la ca o lb cb size : Nat) (cura curb : Array Value) (e e' : TypeId) (T' : TypeId)
  (hu : P.underlying T = some (.slice elem)) (hs : (P.info? elem).map (·.size) = some size) (ha : w.heap[a]? = some (.cells cura e (0,0))) (hb : w.heap[b]? = some (.cells curb e' (0,0))) (hne : a ≠ b) :
  (Extern.SlicesOverlaps.overlaps #[T,T'] rs #[.slice (some ⟨a,0,none⟩) la ca,.slice (some ⟨b,o,none⟩) lb cb]).run P w = .ok (.bool false) w := by
 have key : (Extern.SlicesOverlaps.overlaps #[T,T'] rs #[.slice (some ⟨a,0,none⟩) la ca,.slice (some ⟨b,o,none⟩) lb cb]) = (do
   let .slice elem ← underlying T | stuck "slices.overlaps: slice type expected"
   let size ← Go.sizeOf elem
   if la = 0 ∨ lb = 0 ∨ size = 0 then pure (.bool false)
   else if (⟨a,0,none⟩ : Addr).block != (⟨b,o,none⟩ : Addr).block && (← frozen ⟨a,0,none⟩) && (← frozen ⟨b,o,none⟩) then unsupported .addressObserved
   else do
    if (⟨a,0,none⟩ : Addr).block != (⟨b,o,none⟩ : Addr).block then do
     noView ⟨a,0,none⟩;noView ⟨b,o,none⟩
     if ← mayBeOne ⟨a,0,none⟩ ⟨b,o,none⟩ then return .bool ((← choose (.extern "sameAddr.stringBytes" 2)) == 1)
    pure (.bool ((⟨a,0,none⟩ : Addr).block == (⟨b,o,none⟩ : Addr).block && (⟨a,0,none⟩ : Addr).off < (⟨b,o,none⟩ : Addr).off + lb * size && (⟨b,o,none⟩ : Addr).off < (⟨a,0,none⟩ : Addr).off + la * size)) : Sem Value) := rfl
 rw [key]
 cases hq : P.info? elem with
 | none => simp [hq] at hs
 | some i =>
  have hfa : ∀ n,w.frozen? ⟨a,n,none⟩ = false := fun n => by simp [World.frozen?,ha]
  have hfb : ∀ n,w.frozen? ⟨b,n,none⟩ = false := fun n => by simp [World.frozen?,hb]
  have hsa : w.shape? a = some (e,cura.size) := by simp [World.shape?,ha]
  have hsb : w.shape? b = some (e',curb.size) := by simp [World.shape?,hb]
  simp [run_underlying hu,Go.sizeOf,typeInfo,hq,hne,frozen,noView,viewAt,shape,mayBeOne,stringish,hfa,hfb,hsa,hsb,Sem.run]
theorem zff {P : Program} (w : World) {ops : Array Oper} {rest : List Oper} {o : Oper} {a : Act} {Q : Exit → Act → World → Prop}
  (hgd : o.guard = none) (s x : Operand) (t ti : TypeId) (ho : o.op = .call { callee := .builtin .append,args := #[s,x],argTypes := #[t,ti] })
  (e : TypeId) (i : TypeInfo) (z : Value) (size bytes : Nat) (ht : P.underlying t = some (.slice e)) {k : IntKind} (hti : P.underlying ti = some (.int k)) (hi : P.info? e = some i) (hz : i.zero = some z)
  (hsize : i.size = size) (hby : i.bytes = bytes) (hzs : z.cells.size = size) (hsz : 0 < size) (hb0 : 0 < bytes)
  (b : Addr) (n cap : Nat) (olds : List Value) (hs : a.eval s = .slice (some b) n cap) (hlo : olds.length = n * size) (holds : ∀ j u,olds[j]? = some u → w.cell? (b.add j) = some u) (kx : IntKind) (m : Nat) (hx : a.eval x = .int kx m) (hm : 0 < m)
  (hg : cap < n + m) (hbytes : (n + m) * bytes ≤ 140737488355328)
  (h : ∀ v' w',w'.ownsRow w.heap.size e size v' (n + m) (olds ++ (Builtin.zeroCells z.cells m).toList) → w.grownBy w' none → wpList P ops Q rest (a.put o.dst v') w') : wpList P ops Q (o :: rest) a w := by
 refine wpList_plain hgd fun K' hK' => ?_
 obtain ⟨v',w',hrun,r1,r2⟩ := zfU w t ti o.type e i z size bytes ht hti hi hz hsize hby hzs hsz hb0 b n cap olds hlo holds kx m hm hg hbytes
 unfold Oper.wp
 simp [execOp,ho,resolve,invoke,builtin,hs,hx,hrun,Result.andThen]
 exact hK' _ _ (h v' w' r1 r2)
theorem zcc {P : Program} (w : World) {ops : Array Oper} {rest : List Oper} {o : Oper} {a : Act} {Q : Exit → Act → World → Prop}
  (hgd : o.guard = none) (d s : Operand) (dT sT : TypeId) (ho : o.op = .call { callee := .builtin .copy,args := #[d,s],argTypes := #[dT,sT] })
  (elem : TypeId) (size : Nat) (hu : P.underlying dT = some (.slice elem)) (hsz : (P.info? elem).map (·.size) = some size)
  (g off dLen dCap : Nat) (ad : Addr) (sLen sCap : Nat) (hd : a.eval d = .slice (some ⟨g,off,none⟩) dLen dCap) (hs : a.eval s = .slice (some ad) sLen sCap)
  (cur : Array Value) (t : TypeId) (hg : w.heap[g]? = some (.cells cur t (0,0))) (cs : List Value) (hn : cs.length = Nat.min sLen dLen * size) (hsrc : ∀ j v,cs[j]? = some v → w.cell? (ad.add j) = some v)
  (hfit : off + cs.length ≤ cur.size) (h1 : ∀ v ∈ cs,v.oneCell' = true)
  (h : ∀ w' : World,w' = w.setRow g (cur.toList.take off ++ cs ++ cur.toList.drop (off + cs.length)).toArray → wpList P ops Q rest (a.put o.dst (goInt (Nat.min sLen dLen))) w') : wpList P ops Q (o :: rest) a w := by
 refine wpList_plain hgd fun K' hK' => ?_
 have hrun := rows_copy (P := P) w dT sT o.type elem g off dLen dCap ad sLen sCap cur t cs size hu hsz hg hn hsrc hfit h1
 unfold Oper.wp
 simp [execOp,ho,resolve,invoke,builtin,hd,hs,hrun,Result.andThen]
 exact hK' _ _ (h _ (by rw [List.append_assoc]))
theorem cut_ext {P : Program} (t e : TypeId) (kh : IntKind) {i : TypeInfo} (ht : P.underlying t = some (.slice e)) (hi : P.info? e = some i) (A : Option Addr) (n c : Nat) (j : Int) (h0 : 0 ≤ j) (hm : j ≤ c) :
  ∀ W : World,(Instr.slice t (.slice A n c) none (some (.int kh j)) none).run P W = .ok (.slice A j.toNat c) W := by
 intro W
 have hel : P.elem t = e := by simp [Program.elem,ht]
 have hu : P.underlying t = some (.slice (P.elem t)) := by rw [hel];exact ht
 have ha : (A.map fun x => x.add 0) = A := by cases A <;> simp [Addr.add]
 rw [run_slice_h W t A n c hu kh j h0 hm,hel]
 simp [sizeOf,typeInfo,hi,sliced,Result.andThen,ha]
theorem zeL {P : Program} (t e : TypeId) (kl : IntKind) {i : TypeInfo} (ht : P.underlying t = some (.slice e)) (hi : P.info? e = some i) (size : Nat) (hsz : i.size = size) (g n c j : Nat) (z : Int) (hz : z = j) (hm : j ≤ n) (hc : j < c) :
  ∀ W : World,(Instr.slice t (.slice (some ⟨g,0,none⟩) n c) (some (.int kl z)) none none).run P W = .ok (.slice (some ⟨g,j * size,none⟩) (n - j) (c - j)) W := by
 subst hz
 intro W
 have h := zh9 (P := P) t e kl ht hi size hsz (some ⟨g,0,none⟩) n c (j : Int) (by omega) (by omega) W
 rw [Int.toNat_natCast,if_neg (by omega)] at h
 rw [h,Option.map_some,zbv]
theorem ze3 {w : World} {base : Nat} {e : TypeId} {size : Nat} {v : Value} {n : Nat} {xs : List Value} (h : w.ownsRow base e size v n xs) (hn : 0 < n) : ∃ g cap,∃ cur : Array Value,v = .slice (some ⟨g,0,none⟩) n cap ∧ base ≤ g ∧ w.heap[g]? = some (.cells cur e (0,0)) ∧ n ≤ cap ∧ cap ≤ maxLen ∧ cur.size = cap * size ∧ cur.toList.take (n * size) = xs := by
 rcases h.2 with ⟨_,h0⟩ | ⟨g,cap,cur,h1,h2,h3,h4,h7,h5,h6⟩
 ·omega
 ·exact ⟨g,cap,cur,h1,h2,h3,h4,h7,h5,h6⟩
theorem zcA (w : World) (g : Nat) (cs : Array Value) : w.grownBy (w.setRow g cs) (some g) := ⟨rfl,rfl,rfl,by simp [World.setRow],fun k hk hne => setRow_other w g k cs (fun e => hne (by rw [e]))⟩
theorem ins_new {α : Type} (xs cs zs cur : List α) (a b : Nat) (hb : xs.length = b) (ha : a ≤ b) (h : cur.take (b + cs.length) = xs.take a ++ zs) (hl : b + cs.length ≤ cur.length) :
  (((cur.take a ++ cs ++ cur.drop (a + cs.length)).take (a + cs.length) ++ xs.drop a ++ (cur.take a ++ cs ++ cur.drop (a + cs.length)).drop (a + cs.length + (xs.drop a).length))).take (b + cs.length) = xs.take a ++ cs ++ xs.drop a := by
 have e1 : cur.take a = xs.take a := by
  have := congrArg (List.take a) h
  rwa [List.take_take,Nat.min_eq_left (by omega),List.take_append_of_le_length (by rw [List.length_take];omega),List.take_take,Nat.min_self] at this
 have l1 : (cur.take a).length = a := by rw [List.length_take];omega
 have l2 : (cur.take a ++ cs).length = a + cs.length := by rw [List.length_append,l1]
 rw [List.take_left' l2,e1]
 have l3 : (xs.take a ++ cs ++ xs.drop a).length = b + cs.length := by simp;omega
 exact List.take_left' l3
theorem ins_here {α : Type} (xs cs cur : List α) (a b : Nat) (hb : xs.length = b) (ha : a ≤ b) (h : cur.take b = xs) (hl : b + cs.length ≤ cur.length) :
  (((cur.take (a + cs.length) ++ xs.drop a ++ cur.drop (a + cs.length + (xs.drop a).length)).take a ++ cs ++ (cur.take (a + cs.length) ++ xs.drop a ++ cur.drop (a + cs.length + (xs.drop a).length)).drop (a + cs.length))).take (b + cs.length) = xs.take a ++ cs ++ xs.drop a := by
 have e1 : cur.take a = xs.take a := by rw [← h,List.take_take,Nat.min_eq_left ha]
 have l1 : (cur.take (a + cs.length)).length = a + cs.length := by rw [List.length_take];omega
 have e2 : (cur.take (a + cs.length) ++ xs.drop a ++ cur.drop (a + cs.length + (xs.drop a).length)).take a = xs.take a := by
  rw [List.append_assoc,List.take_append_of_le_length (by omega),List.take_take,Nat.min_eq_left (by omega),e1]
 have e3 : (cur.take (a + cs.length) ++ xs.drop a ++ cur.drop (a + cs.length + (xs.drop a).length)).drop (a + cs.length) = xs.drop a ++ cur.drop (a + cs.length + (xs.drop a).length) := by
  rw [List.append_assoc,List.drop_left' l1]
 rw [e2,e3,← List.append_assoc]
 have l3 : (xs.take a ++ cs ++ xs.drop a).length = b + cs.length := by simp;omega
 exact List.take_left' l3
set_option maxHeartbeats 8000000 in
set_option maxRecDepth 100000 in
theorem ins_last (A : Option Addr) (n cap : Nat) (xs : List Value) (base : Nat) (w : World) (hown : w.ownsRow base 39 7 (.slice A n cap) n xs) (hnc : n ≤ cap) (gb : Nat) (cs : List Value) (hh : w.heap[gb]? = some (.cells cs.toArray 39 (0,0))) (hcs : cs.length = 7) (h1 : ∀ u ∈ cs,u.oneCell' = true) (hl : n < 1466015503701) (hbase : base ≤ w.heap.size) :
  Calls Tryz.prog 18 #[.slice A n cap,.int .i64 (n : Int),.slice (some ⟨gb,0,none⟩) 1 1] w fun e w' => ∃ v' : Value,e = .returned v' ∧ w'.ownsRow base 39 7 v' (n + 1) (xs ++ cs) ∧ w.grownBy w' (Value.slice A n cap).ownBlock := by
 obtain ⟨i0,hi0,hz0,hsz,hby⟩ := info_parts zdL
 have HO := za.mk hown
 have HI := za.mk hi0
 have HZ := za.mk hz0
 have HS := za.mk hsz
 have HY := za.mk hby
 have HBS := za.mk hbase
 have HC1 := za.mk h1
 have HCS := za.mk hcs
 have HH : za (∀ j u,cs[j]? = some u → w.cell? ((⟨gb,0,none⟩ : Addr).add j) = some u) := ⟨fun j u hj => by rw [zbv,zb hh,List.getElem?_toArray];exact hj⟩
 have hcut := zh9 (P := Tryz.prog) 24 39 .i64 Tryz.underlying24 hi0 7 hsz A n cap (n : Int) (by omega) (by omega)
 obtain ⟨A2,hA2⟩ : ∃ A2,A2 = (if cap = (n : Int).toNat then A else A.map (·.add ((n : Int).toNat * 7))) := ⟨_,rfl⟩
 rw [← hA2] at hcut
 clear hA2
 have p1 : ((n : Int) ≤ (n : Int)) = True := eq_true (Int.le_refl _)
 have p2 : ((n : Int) ≤ (cap : Int)) = True := eq_true (by omega)
 clear hown hz0 hsz hby hbase h1 hcs hh hi0
 go_enter Tryz.func18,Tryz.ntmps18
 go_wp2_with (at_builtin;refine wpList_append_own _ rfl (.tmp 23) (.tmp 24) 24 rfl base 39 i0 (.agg #[.string ⟨#[]⟩,.int .i64 0,.int .i64 0,.slice none 0 0,.slice none 0 0,.int .i64 0,.int .i64 0]) 7 96 Tryz.underlying24 HI.out HZ.out HS.out HY.out rfl (by decide) _ n xs rfl HO.out ⟨gb,0,none⟩ 1 1 cs rfl HCS.out HH.out HC1.out ?c1 ?c2 HBS.out ?_;(case c1 => simp only [maxLen];omega);(case c2 => omega);intro v1 w1 ho hg _;have HO1 := za.mk ho;have HG1 : za (w.grownBy w1 (Value.slice A n cap).ownBlock) := ⟨hg⟩;clear ho hg)
 go_ret
 exact ⟨_,rfl,HO1.out,HG1.out⟩
set_option maxHeartbeats 16000000 in
set_option maxRecDepth 100000 in
theorem ins_grow (g n cap : Nat) (xs : List Value) (i : Nat) (hi : i < n) (base : Nat) (w : World) (hown : w.ownsRow base 39 7 (.slice (some ⟨g,0,none⟩) n cap) n xs) (hnc : cap < n + 1) (gb : Nat) (cs : List Value) (hh : w.heap[gb]? = some (.cells cs.toArray 39 (0,0))) (hcs : cs.length = 7) (h1 : ∀ u ∈ cs,u.oneCell' = true) (hx1 : ∀ u ∈ xs,u.oneCell' = true) (hl : n < 1466015503701) (hbase : base ≤ w.heap.size) :
  Calls Tryz.prog 18 #[.slice (some ⟨g,0,none⟩) n cap,.int .i64 (i : Int),.slice (some ⟨gb,0,none⟩) 1 1] w fun e w' => ∃ v' : Value,e = .returned v' ∧ w'.ownsRow base 39 7 v' (n + 1) (xs.take (i * 7) ++ cs ++ xs.drop (i * 7)) ∧ w.grownBy w' none := by
 obtain ⟨i0,hi0,hz0,hsz,hby⟩ := info_parts zdL
 have hxl := hown.1
 have hcn : n ≤ cap := by
  rcases hown.2 with ⟨h0,_⟩ | ⟨_,_,_,h0,_,_,h3,_⟩
  ·cases h0
  ·injection h0 with _ _ h0;omega
 obtain ⟨cur,hg,hcm,hcz,htk⟩ : ∃ cur : Array Value,w.heap[g]? = some (.cells cur 39 (0,0)) ∧ cap ≤ maxLen ∧ cur.size = cap * 7 ∧ cur.toList.take (n * 7) = xs := by
  rcases hown.2 with ⟨h0,_⟩ | ⟨g',cap',cur',h0,_,h2,_,h4,h5,h6⟩
  ·cases h0
  ·injection h0 with h7 h8 h9
   injection h7 with h7
   injection h7 with h7 _ _
   subst h7;subst h9
   exact ⟨cur',h2,h4,h5,h6⟩
 have HG := za.mk hg
 have HXL := za.mk hxl
 have HSZ : za ((Tryz.prog.info? 39).map (·.size) = some 7) := ⟨by rw [hi0,Option.map_some,hsz]⟩
 have HI := za.mk hi0
 have HZ := za.mk hz0
 have HS := za.mk hsz
 have HY := za.mk hby
 have HBS := za.mk hbase
 have HC1 := za.mk h1
 have HX1 := za.mk hx1
 have HCS := za.mk hcs
 have HH0 := za.mk hh
 have HCL : za (∀ j u,xs[j]? = some u → w.cell? ⟨g,j,none⟩ = some u) := ⟨fun j u hj => by
  rw [zb hg,← Array.getElem?_toList]
  rw [← htk,List.getElem?_take] at hj
  split at hj
  ·exact hj
  ·cases hj⟩
 have hcutA := zeL (P := Tryz.prog) 24 39 .i64 Tryz.underlying24 hi0 7 hsz g n cap i (i : Int) rfl (by omega) (by omega)
 have hcutB := cut_to (P := Tryz.prog) 24 39 .i64 Tryz.underlying24 hi0 (some ⟨g,0,none⟩) n cap (i : Int) (by omega) (by omega) hcn
 rw [Int.toNat_natCast] at hcutB
 have c1 : ((i : Int) == (n : Int)) = false := beq_eq_false_iff_ne.2 (by omega)
 have c1b : (i == n) = false := beq_eq_false_iff_ne.2 (by omega)
 have c2 : decide ((cap : Int) < (n : Int) + 1) = true := decide_eq_true (by omega)
 have c2b : decide (cap < n + 1) = true := decide_eq_true (by omega)
 have p1 : ((i : Int) ≤ (n : Int)) = True := eq_true (by omega)
 have p2 : ((i : Int) ≤ (cap : Int)) = True := eq_true (by omega)
 clear hown hz0 hsz hby hbase h1 hx1 hcs hh hi0 hg hcm hcz htk
 go_enter Tryz.func18,Tryz.ntmps18
 go_wp2_with (first
  | (at_builtin;refine zff _ rfl (.tmp 34) (.tmp 39) 24 3 rfl 39 i0 (.agg #[.string ⟨#[]⟩,.int .i64 0,.int .i64 0,.slice none 0 0,.slice none 0 0,.int .i64 0,.int .i64 0]) 7 96 Tryz.underlying24 Tryz.underlying3 HI.out HZ.out HS.out HY.out rfl (by decide) (by decide) ⟨g,0,none⟩ i cap (xs.take (i * 7)) rfl ?c1 ?c2 .i64 (n + 1 - i) ?c3 (by omega) (by omega) (by omega) ?_;(case c1 => (rw [List.length_take,HXL.out];omega));(case c2 => (intro j u hj;rw [zbv];rw [List.getElem?_take] at hj;split at hj;exact HCL.out j u hj;cases hj));(case c3 => (show Value.int IntKind.i64 ((n : Int) + 1 - (i : Int)) = _;congr 1;omega));intro v1 w1 ho hg;obtain ⟨g',cap',cur',rfl,hbg,hh',hle',hcm',hcz',htk'⟩ := ze3 (show w1.ownsRow w.heap.size 39 7 v1 (n + 1) _ from (show i + (n + 1 - i) = n + 1 by omega) ▸ ho) (by omega);have HG1 := za.mk hg;have HH' := za.mk hh';have HB' := za.mk hbg;have HCM := za.mk hcm';clear hcm';have HCZ := za.mk hcz';have HTK := za.mk htk';clear ho hg hh' hbg hcz' htk';have hcutC := zeL (P := Tryz.prog) 24 39 .i64 Tryz.underlying24 HI.out 7 HS.out g' (n + 1) cap' i (i : Int) rfl (by omega) (by omega);have hcutD := zeL (P := Tryz.prog) 24 39 .i64 Tryz.underlying24 HI.out 7 HS.out g' (n + 1) cap' (i + 1) ((i : Int) + 1) (by omega) (by omega) (by omega);have q1 : ((i : Int) ≤ (n : Int) + 1) = True := eq_true (by omega);have q2 : ((i : Int) + 1 ≤ (n : Int) + 1) = True := eq_true (by omega);have q3 : ((i : Int) ≤ (cap' : Int)) = True := eq_true (by omega);have q4 : ((i : Int) + 1 ≤ (cap' : Int)) = True := eq_true (by omega))
  | (refine zcc _ rfl (.tmp 43) (.tmp 44) 24 24 rfl 39 7 Tryz.underlying24 HSZ.out g' (i * 7) (n + 1 - i) (cap' - i) ⟨gb,0,none⟩ 1 1 rfl rfl cur' 39 HH'.out cs ?d1 ?d2 ?d3 HC1.out ?_;(case d1 => (rw [HCS.out];show 7 = min 1 (n + 1 - i) * 7;rw [Nat.min_eq_left (by omega)]));(case d2 => (intro j u hj;rw [zbv,zb (zaL HH0.out HG1.out (by simp)),List.getElem?_toArray];exact hj));(case d3 => (rw [HCS.out,HCZ.out];omega));intro w2 hw2;have HW2 := za.mk hw2;clear hw2))
 have HG2 : za (w1.grownBy w2 (some g')) := ⟨by rw [HW2.out];exact zcA w1 g' _⟩
 have HGG : za (g ≠ g') := ⟨fun he => by have := zav HG.out;have := HB'.out;omega⟩
 have HN2 : za (w2.heap[g']? = some (.cells (cur'.toList.take (i * 7) ++ cs ++ cur'.toList.drop (i * 7 + cs.length)).toArray 39 (0,0))) := ⟨by rw [HW2.out];exact setRow_heap w1 g' _ _ _ _ HH'.out⟩
 have HC2 : za (∀ j u,(xs.drop (i * 7))[j]? = some u → w2.cell? ((⟨g,i * 7,none⟩ : Addr).add j) = some u) := ⟨fun j u hj => by
  rw [List.getElem?_drop] at hj
  have h1 := zaL (zaL HG.out HG1.out (by simp)) HG2.out (fun he => HGG.out (by injection he))
  have h0 := HCL.out _ u hj
  rw [zb HG.out] at h0
  rw [ziP,zb h1]
  exact h0⟩
 have HNE : za (w.grownBy w2 none) := ⟨⟨HG2.out.os.trans HG1.out.os,HG2.out.tape.trans HG1.out.tape,HG2.out.output.trans HG1.out.output,Nat.le_trans HG1.out.size HG2.out.size,fun k hk _ => (HG2.out.block k (Nat.lt_of_lt_of_le hk HG1.out.size) (fun he => by injection he with he;have := HB'.out;omega)).trans (HG1.out.block k hk (by simp))⟩⟩
 have s1 : IntKind.i64.wrap ((i : Int) + 1) = (i : Int) + 1 := IntWalk.i64_in _ (by omega)
 clear c1 c1b c2 c2b
 go_still_tail 8,(by kernel_rfl)
 change wpList _ _ _ _ _ w2.drew
 refine zcc _ rfl (.tmp 50) (.tmp 53) 24 24 rfl 39 7 Tryz.underlying24 HSZ.out g' ((i + 1) * 7) (n - i) (cap' - (i + 1)) ⟨g,i * 7,none⟩ (n - i) (cap - i) rfl rfl _ 39 (zaf HN2.out) (xs.drop (i * 7)) ?f1 (fun j u hj => HC2.out j u hj) ?f3 (fun u hu => HX1.out u (List.mem_of_mem_drop hu)) ?_
 case f1 => (rw [List.length_drop,HXL.out];show _ = min (n - i) (n - i) * 7;rw [Nat.min_self];omega)
 case f3 =>
  have h1 : (cur'.toList.take (i * 7) ++ cs ++ cur'.toList.drop (i * 7 + cs.length)).toArray.size = cur'.size := by
   simp only [List.size_toArray,List.length_append,List.length_take,List.length_drop,Array.length_toList]
   have := HCZ.out;have := HCS.out;omega
  rw [h1,List.length_drop,HXL.out];have := HCZ.out;omega
 intro w3 hw3
 have HW3 := za.mk hw3
 clear hw3
 clear hcutA hcutB hcutC hcutD s1 q1 q2 q3 q4 p1 p2
 go_wp2
 go_ret
 have HG3 : w2.drew.grownBy w3 (some g') := by rw [HW3.out];exact zcA _ g' _
 have HN3 : w3.heap[g']? = some (.cells (((cur'.toList.take (i * 7) ++ cs ++ cur'.toList.drop (i * 7 + cs.length)).toArray).toList.take ((i + 1) * 7) ++ xs.drop (i * 7) ++ ((cur'.toList.take (i * 7) ++ cs ++ cur'.toList.drop (i * 7 + cs.length)).toArray).toList.drop ((i + 1) * 7 + (xs.drop (i * 7)).length)).toArray 39 (0,0)) := by rw [HW3.out];exact setRow_heap _ g' _ _ _ _ (zaf HN2.out)
 refine ⟨_,rfl,⟨?_,.inr ⟨g',cap',_,rfl,Nat.le_trans HBS.out HB'.out,HN3,by omega,HCM.out,?_,?_⟩⟩,⟨HG3.os.trans HNE.out.os,HG3.tape.trans HNE.out.tape,HG3.output.trans HNE.out.output,Nat.le_trans HNE.out.size HG3.size,fun k hk _ => (HG3.block k (Nat.lt_of_lt_of_le hk HNE.out.size) (fun he => by injection he with he;have := HB'.out;omega)).trans (HNE.out.block k hk (by simp))⟩⟩
 ·simp only [List.length_append,List.length_take,List.length_drop,HXL.out,HCS.out];omega
 ·simp only [List.size_toArray,List.length_append,List.length_take,List.length_drop,Array.length_toList,HXL.out,HCS.out,HCZ.out];omega
 ·have h1 := ins_new xs cs ((Builtin.zeroCells (Value.cells (.agg #[.string ⟨#[]⟩,.int .i64 0,.int .i64 0,.slice none 0 0,.slice none 0 0,.int .i64 0,.int .i64 0])) (n + 1 - i)).toList) cur'.toList (i * 7) (n * 7) HXL.out (by omega) (by rw [HCS.out];have h0 := HTK.out;rwa [Nat.add_mul,Nat.one_mul] at h0) (by rw [HCS.out,Array.length_toList,HCZ.out];omega)
  rw [HCS.out] at h1
  simpa [HCS.out,Nat.add_mul] using h1
set_option maxHeartbeats 16000000 in
set_option maxRecDepth 100000 in
theorem ins_room (g n cap : Nat) (xs : List Value) (i : Nat) (hi : i < n) (base : Nat) (w : World) (hown : w.ownsRow base 39 7 (.slice (some ⟨g,0,none⟩) n cap) n xs) (hnc : n + 1 ≤ cap) (gb : Nat) (hgb : gb ≠ g) (cs : List Value) (hh : w.heap[gb]? = some (.cells cs.toArray 39 (0,0))) (hcs : cs.length = 7) (h1 : ∀ u ∈ cs,u.oneCell' = true) (hx1 : ∀ u ∈ xs,u.oneCell' = true) (hl : n < 1466015503701) (hbase : base ≤ w.heap.size) :
  Calls Tryz.prog 18 #[.slice (some ⟨g,0,none⟩) n cap,.int .i64 (i : Int),.slice (some ⟨gb,0,none⟩) 1 1] w fun e w' => ∃ v' : Value,e = .returned v' ∧ w'.ownsRow base 39 7 v' (n + 1) (xs.take (i * 7) ++ cs ++ xs.drop (i * 7)) ∧ w.grownBy w' (some g) := by
 obtain ⟨i0,hi0,hz0,hsz,hby⟩ := info_parts zdL
 have hxl := hown.1
 have hcn : n ≤ cap := by
  rcases hown.2 with ⟨h0,_⟩ | ⟨_,_,_,h0,_,_,h3,_⟩
  ·cases h0
  ·injection h0 with _ _ h0;omega
 obtain ⟨cur,hg,hcm,hcz,htk⟩ : ∃ cur : Array Value,w.heap[g]? = some (.cells cur 39 (0,0)) ∧ cap ≤ maxLen ∧ cur.size = cap * 7 ∧ cur.toList.take (n * 7) = xs := by
  rcases hown.2 with ⟨h0,_⟩ | ⟨g',cap',cur',h0,_,h2,_,h4,h5,h6⟩
  ·cases h0
  ·injection h0 with h7 h8 h9
   injection h7 with h7
   injection h7 with h7 _ _
   subst h7;subst h9
   exact ⟨cur',h2,h4,h5,h6⟩
 have HG := za.mk hg
 have HXL := za.mk hxl
 have HSZ : za ((Tryz.prog.info? 39).map (·.size) = some 7) := ⟨by rw [hi0,Option.map_some,hsz]⟩
 have HI := za.mk hi0
 have HZ := za.mk hz0
 have HS := za.mk hsz
 have HY := za.mk hby
 have HBS := za.mk hbase
 have HC1 := za.mk h1
 have HX1 := za.mk hx1
 have HCS := za.mk hcs
 have HH0 := za.mk hh
 have HCL : za (∀ j u,xs[j]? = some u → w.cell? ⟨g,j,none⟩ = some u) := ⟨fun j u hj => by
  rw [zb hg,← Array.getElem?_toList]
  rw [← htk,List.getElem?_take] at hj
  split at hj
  ·exact hj
  ·cases hj⟩
 have hcutA := zeL (P := Tryz.prog) 24 39 .i64 Tryz.underlying24 hi0 7 hsz g n cap i (i : Int) rfl (by omega) (by omega)
 have hcutB := cut_ext (P := Tryz.prog) 24 39 .i64 Tryz.underlying24 hi0 (some ⟨g,0,none⟩) n cap ((n : Int) + 1) (by omega) (by omega)
 rw [show ((n : Int) + 1).toNat = n + 1 by omega] at hcutB
 have hcutC := zeL (P := Tryz.prog) 24 39 .i64 Tryz.underlying24 hi0 7 hsz g (n + 1) cap (i + 1) ((i : Int) + 1) (by omega) (by omega) (by omega)
 have hcutD := zeL (P := Tryz.prog) 24 39 .i64 Tryz.underlying24 hi0 7 hsz g (n + 1) cap i (i : Int) rfl (by omega) (by omega)
 have HLEN := za.mk hcz
 have HNG := za.mk hgb
 have HBG : za (base ≤ g) := ⟨zcg hown g rfl⟩
 have HCM := za.mk hcm
 have HTK := za.mk htk
 have hov : ∀ (o lb cb : Nat),(callFunc 35 #[.slice (some ⟨gb,0,none⟩) 1 1,.slice (some ⟨g,o,none⟩) lb cb]).run Tryz.prog w = .ok (.value (.bool false)) w := fun o lb cb => by
  rw [run_callFunc_extern Tryz.func35 (by kernel_rfl) rfl (by kernel_rfl) rfl]
  show ((Extern.SlicesOverlaps.overlaps #[24,24] #[4] #[.slice (some ⟨gb,0,none⟩) 1 1,.slice (some ⟨g,o,none⟩) lb cb]).run Tryz.prog w).andThen (fun v w' => Result.ok (Next.value v) w') = _
  rw [rows_apart w 24 _ 39 gb g 1 1 o lb cb 7 _ _ 39 39 24 Tryz.underlying24 HSZ.out hh hg hgb]
  rfl
 have c1 : ((i : Int) == (n : Int)) = false := beq_eq_false_iff_ne.2 (by omega)
 have c1b : (i == n) = false := beq_eq_false_iff_ne.2 (by omega)
 have c2 : decide ((cap : Int) < (n : Int) + 1) = false := decide_eq_false (by omega)
 have c2b : decide (cap < n + 1) = false := decide_eq_false (by omega)
 have p1 : ((i : Int) ≤ (n : Int)) = True := eq_true (by omega)
 have p2 : ((i : Int) ≤ (cap : Int)) = True := eq_true (by omega)
 clear hown hz0 hsz hby hbase h1 hx1 hcs hh hi0 hg hcm hcz htk hgb
 go_enter Tryz.func18,Tryz.ntmps18
 go_wp2_with fail
 have s1 : IntKind.i64.wrap ((i : Int) + 1) = (i : Int) + 1 := IntWalk.i64_in _ (by omega)
 have q1 : ((i : Int) ≤ (n : Int) + 1) = True := eq_true (by omega)
 have q2 : ((i : Int) + 1 ≤ (n : Int) + 1) = True := eq_true (by omega)
 have q3 : ((i : Int) + 1 ≤ (cap : Int)) = True := eq_true (by omega)
 clear c1 c1b c2 c2b hov
 go_still_tail 8,(by kernel_rfl)
 change wpList _ _ _ _ _ w.drew
 refine zcc _ rfl (.tmp 73) (.tmp 76) 24 24 rfl 39 7 Tryz.underlying24 HSZ.out g ((i + 1) * 7) (n - i) (cap - (i + 1)) ⟨g,i * 7,none⟩ (n + 1 - i) (cap - i) rfl rfl cur 39 (zaf HG.out) (xs.drop (i * 7)) ?f1 ?f2 ?f3 (fun u hu => HX1.out u (List.mem_of_mem_drop hu)) ?_
 case f1 => (rw [List.length_drop,HXL.out];show _ = min (n + 1 - i) (n - i) * 7;rw [Nat.min_eq_right (by omega)];omega)
 case f2 => (intro j u hj;rw [List.getElem?_drop] at hj;rw [ziP];exact HCL.out _ u hj)
 case f3 => (rw [List.length_drop,HXL.out,HLEN.out];omega)
 intro w2 hw2
 have HG2 : za (w.drew.grownBy w2 (some g)) := ⟨by rw [hw2];exact zcA _ g _⟩
 have HN2 : za (w2.heap[g]? = some (.cells (cur.toList.take ((i + 1) * 7) ++ xs.drop (i * 7) ++ cur.toList.drop ((i + 1) * 7 + (xs.drop (i * 7)).length)).toArray 39 (0,0))) := ⟨by rw [hw2];exact setRow_heap _ g _ _ _ _ (zaf HG.out)⟩
 have HL2 : za (((cur.toList.take ((i + 1) * 7) ++ xs.drop (i * 7) ++ cur.toList.drop ((i + 1) * 7 + (xs.drop (i * 7)).length)).toArray).size = cap * 7) := ⟨by
  simp only [List.size_toArray,List.length_append,List.length_take,List.length_drop,Array.length_toList,HXL.out,HLEN.out];omega⟩
 have HS2 : za (∀ j u,cs[j]? = some u → w2.cell? ((⟨gb,0,none⟩ : Addr).add j) = some u) := ⟨fun j u hj => by rw [zbv,zb (zaL (zaf HH0.out) HG2.out (fun he => HNG.out (by injection he))),List.getElem?_toArray];exact hj⟩
 clear hw2 hcutC q2 q3 s1
 go_wp2_with (refine zcc _ rfl (.tmp 80) (.tmp 81) 24 24 rfl 39 7 Tryz.underlying24 HSZ.out g (i * 7) (n + 1 - i) (cap - i) ⟨gb,0,none⟩ 1 1 rfl rfl _ 39 HN2.out cs ?d1 HS2.out ?d3 HC1.out ?_;(case d1 => (rw [HCS.out];show 7 = min 1 (n + 1 - i) * 7;rw [Nat.min_eq_left (by omega)]));(case d3 => (rw [HL2.out,HCS.out];omega));intro w3 hw3;have HW3 := za.mk hw3;clear hw3)
 go_ret
 have HG3 : w2.grownBy w3 (some g) := by rw [HW3.out];exact zcA _ g _
 have HN3 : w3.heap[g]? = some (.cells (((cur.toList.take ((i + 1) * 7) ++ xs.drop (i * 7) ++ cur.toList.drop ((i + 1) * 7 + (xs.drop (i * 7)).length)).toArray).toList.take (i * 7) ++ cs ++ ((cur.toList.take ((i + 1) * 7) ++ xs.drop (i * 7) ++ cur.toList.drop ((i + 1) * 7 + (xs.drop (i * 7)).length)).toArray).toList.drop (i * 7 + cs.length)).toArray 39 (0,0)) := by rw [HW3.out];exact setRow_heap _ g _ _ _ _ HN2.out
 refine ⟨_,rfl,⟨?_,.inr ⟨g,cap,_,rfl,HBG.out,HN3,by omega,HCM.out,?_,?_⟩⟩,World.grownBy.trans (show w.grownBy w2 (some g) from ⟨HG2.out.os,HG2.out.tape,HG2.out.output,HG2.out.size,HG2.out.block⟩) HG3⟩
 ·simp only [List.length_append,List.length_take,List.length_drop,HXL.out,HCS.out];omega
 ·simp only [List.size_toArray,List.length_append,List.length_take,List.length_drop,Array.length_toList,HXL.out,HCS.out,HLEN.out];omega
 ·have h1 := ins_here xs cs cur.toList (i * 7) (n * 7) HXL.out (by omega) HTK.out (by rw [HCS.out,Array.length_toList,HLEN.out];omega)
  rw [HCS.out] at h1
  simpa [HCS.out,Nat.add_mul] using h1
def RE (w0 : World) (P : Nat → Prop) (x : Ent) (cs : List Value) : Prop := Kd.FK k39 w0 P x cs
abbrev zcD (w0 : World) (P : Nat → Prop) (W : World) (base : Nat) (v : Value) (L : List Ent) : Prop := za2 (RE w0 P) 39 7 W base v L
theorem zgb {w0 : World} {P : Nat → Prop} {x : Ent} {cs : List Value} (h : RE w0 P x cs) : cs.length = 7 := (k39).K_len (Kd.FK_now h)
theorem zgc {w0 : World} {P : Nat → Prop} {x : Ent} {cs : List Value} (h : RE w0 P x cs) : ∀ u ∈ cs,u.oneCell' = true := (k39).K_one (Kd.FK_now h)
theorem zhn {w0 W : World} {P : Nat → Prop} {base b e : Nat} {v : Value} {L : List Ent} (h : zcD w0 P W base v L) (hb : Below w0.heap.size w0 W) (hbase : w0.heap.size ≤ base) : Kd.V k39 e W b (fun k_ => P k_ ∨ w0.heap.size ≤ k_) v L := by
 obtain ⟨inner,ho,hr⟩ := h
 obtain ⟨A,c,rfl,hc,_⟩ := za2.reads (⟨inner,ho,hr⟩ : zcD w0 P W base v L)
 refine Kd.V_mk hc (fun W' hW => ?_)
 have ho' : W'.ownsRow base 39 7 (.slice A L.length c) L.length inner := zgx ho (fun k hk => hW k (.inr (Nat.le_trans hbase (zcg ho k hk))) (zgw ho k hk))
 obtain ⟨A',c',he,_,hrd⟩ := za2.reads (⟨inner,ho',zaA.imp_ hr (fun x cs hx => hx W' (fun k hP hk => (hW k (.inl hP) (Nat.lt_of_lt_of_le hk hb.size)).trans (hb.block k hk)))⟩ : za2 ((k39).K W') 39 7 W' base (.slice A L.length c) L)
 injection he with h1 _ _
 subst h1
 exact hrd
theorem grown_any {w w' : World} (h : w.grownBy w' none) (row : Option Nat) : w.grownBy w' row := ⟨h.os,h.tape,h.output,h.size,fun k hk _ => h.block k hk (by simp)⟩
theorem zie (w0 : World) (P : Nat → Prop) (w : World) (base : Nat) (v : Value) (L : List Ent) (i : Nat) (hi : i ≤ L.length) (x : Ent) (gb : Nat) (cs : List Value) (ho : zcD w0 P w base v L) (hh : w.heap[gb]? = some (.cells cs.toArray 39 (0,0))) (hx : RE w0 P x cs) (hgb : some gb ≠ v.ownBlock) (hbase : base ≤ w.heap.size) (hl : L.length < 1466015503701) :
  Calls Tryz.prog 18 #[v,.int .i64 (i : Int),.slice (some ⟨gb,0,none⟩) 1 1] w fun e w' => ∃ v' : Value,e = .returned v' ∧ zcD w0 P w' base v' (L.take i ++ x :: L.drop i) ∧ w.grownBy w' v.ownBlock := by
 obtain ⟨inner,ho,hr⟩ := ho
 have hlen := hr.1
 have key : ∀ cs',cs' = inner.take (i * 7) ++ cs ++ inner.drop (i * 7) → zaA (RE w0 P) 7 (L.take i ++ x :: L.drop i) cs' := fun cs' he => by
  rw [he,show L.take i ++ x :: L.drop i = L.take i ++ [x] ++ L.drop i by simp]
  exact Kd.reps_append (zaA.snoc (Kd.reps_take hr hi) hx (zgb hx)) (Kd.reps_drop hr)
 have hln : (L.take i ++ x :: L.drop i).length = L.length + 1 := by simp;omega
 obtain ⟨A,cap,rfl⟩ := zer ho
 have hnc : L.length ≤ cap := by
  rcases ho.2 with ⟨h0,h1⟩ | ⟨_,_,_,h0,_,_,h3,_⟩
  ·rw [h1];exact Nat.zero_le _
  ·injection h0 with _ _ h0;omega
 by_cases hin : i = L.length
 ·subst hin
  refine (ins_last A L.length cap inner base w ho hnc gb cs hh (zgb hx) (zgc hx) hl hbase).mono ?_
  rintro e w' ⟨v',rfl,h1,h2⟩
  refine ⟨v',rfl,⟨_,by rw [hln];exact h1,key _ ?_⟩,h2⟩
  rw [List.take_of_length_le (by omega),List.drop_of_length_le (by omega),List.append_nil]
 ·rcases ho.2 with ⟨_,h1⟩ | ⟨g,cap',cur,h0,h1⟩
  ·omega
  injection h0 with h2 _ h3
  subst h2;subst h3
  have hone := Kd.reps_one hr (by decide) (fun p c hp => zgc hp)
  by_cases hcap : cap < L.length + 1
  ·refine (ins_grow g L.length cap inner i (by omega) base w ho hcap gb cs hh (zgb hx) (zgc hx) hone hl hbase).mono ?_
   rintro e w' ⟨v',rfl,h4,h5⟩
   exact ⟨v',rfl,⟨_,by rw [hln];exact h4,key _ rfl⟩,grown_any h5 _⟩
  ·refine (ins_room g L.length cap inner i (by omega) base w ho (by omega) gb (fun he => hgb (by rw [he];rfl)) cs hh (zgb hx) (zgc hx) hone hl hbase).mono ?_
   rintro e w' ⟨v',rfl,h4,h5⟩
   exact ⟨v',rfl,⟨_,by rw [hln];exact h4,key _ rfl⟩,h5⟩
set_option maxHeartbeats 4000000 in
set_option maxRecDepth 100000 in
theorem zgh (w0 : World) (P : Nat → Prop) (w : World) (A : Option Addr) (c : Nat) (L : List Ent) (hf : Kd.F k39 w0 P A L.length L) (hb : Below w0.heap.size w0 w) (hl : L.length < 1466015503701) :
  Calls Tryz.prog 19 #[.slice A L.length c] w fun e w' => ∃ v' : Value,e = .returned v' ∧ zcD w0 P w' w.heap.size v' L ∧ Below w.heap.size w w' := by
 have hrows := Kd.F_rows hf
 have heq := Lib.run_eql_slice_nil w 24 39 A L.length c 0 0 Tryz.underlying24
 rcases A with _ | ad
 ·have hn : L = [] := by
   rcases L with _ | ⟨y,L⟩
   ·rfl
   ·obtain ⟨ad,h0,_⟩ := hrows.2.2 (by simp)
    cases h0
  subst hn
  clear hrows hf
  simp only [List.length_nil,Option.isNone_none] at heq ⊢
  go_enter Tryz.func19,Tryz.ntmps19
  go_wp2_with fail
  go_ret
  exact ⟨_,rfl,za2.none_ _ _ _ _ _,Below.refl _ _⟩
 ·obtain ⟨inner,hr,hcell⟩ := hrows.inner_
  simp only [Option.isNone_some] at heq
  obtain ⟨i0,hi0,hz0,hsz,hby⟩ := info_parts zdL
  have hone := Kd.reps_one hr (by decide) (fun p c hp => zgc (w0 := w0) (P := P) hp)
  have hil : inner.length = L.length * 7 := hr.1
  have HL : za (∀ (o : Obj) j u,inner[j]? = some u → (w.alloc o).cell? (ad.add j) = some u) := ⟨fun o j u hj => ((hb.alloc hb.size o).cell (World.block_lt_of_cell? w0 _ (hcell j u hj))).trans (hcell j u hj)⟩
  have HI := za.mk hi0
  have HZ := za.mk hz0
  have HS := za.mk hsz
  have HY := za.mk hby
  have HO := za.mk hone
  have HN := za.mk hil
  have HR := za.mk hr
  clear hi0 hz0 hsz hby hone hil hr hcell hrows hf hb
  go_enter Tryz.func19,Tryz.ntmps19
  go_wp2_with (at_builtin;refine wpList_append_own _ rfl (.tmp 5) (.tmp 6) 24 rfl w.heap.size 39 i0 (.agg #[.string ⟨#[]⟩,.int .i64 0,.int .i64 0,.slice none 0 0,.slice none 0 0,.int .i64 0,.int .i64 0]) 7 96 Tryz.underlying24 HI.out HZ.out HS.out HY.out rfl (by decide) (.slice (some ⟨w.heap.size,0,none⟩) 0 0) 0 [] rfl ⟨rfl,.inr ⟨w.heap.size,0,#[],rfl,Nat.le_refl _,heap_alloc_new w _,Nat.le_refl _,Nat.zero_le _,rfl,rfl⟩⟩ ad L.length c inner rfl HN.out (HL.out _) HO.out ?c1 ?c2 (by simp) ?_;(case c1 => simp only [maxLen];omega);(case c2 => omega);intro v1 w1 ho hg _;have HO1 := za.mk ho;have HG1 := za.mk hg;clear ho hg)
  go_ret
  refine ⟨_,rfl,⟨inner,?_,HR.out⟩,?_⟩
  ·have h_ := HO1.out
   rwa [Nat.zero_add,List.nil_append] at h_
  ·exact zdf (zl (Below.refl w.heap.size w) _) _ (by simp) HG1.out (fun k hk => Nat.le_of_eq (by simpa [Value.ownBlock] using hk))
def zar.p (a r : Int) (B2 : Option Addr) (m2 d2 : Nat) (B3 : Option Addr) (m3 d3 : Nat) (sx sy : Int) (e : S39) : Bool := zbd a r e.f1.f0 e.f1.f1
set_option maxHeartbeats 4000000 in
set_option maxRecDepth 100000 in
theorem zar.odd (a r : Int) (B2 : Option Addr) (m2 d2 : Nat) (B3 : Option Addr) (m3 d3 : Nat) (sx sy : Int) (x0 : ByteArray) (x1 x2 : Int) (A3 : Option Addr) (n3 c3 : Nat) (A4 : Option Addr) (n4 c4 : Nat) (x5 x6 : Int) (g : Nat) (w : World) (hg : w.heap[g]? = some (.cells #[.int .i64 a,.int .i64 r,.slice B2 m2 d2,.slice B3 m3 d3,.int .i64 sx,.int .i64 sy] 35 (0,0))) :
  Calls Tryz.prog 16 #[.agg #[.string x0,.int .i64 x1,.int .i64 x2,.slice A3 n3 c3,.slice A4 n4 c4,.int .i64 x5,.int .i64 x6],.pointer (some ⟨g,0,none⟩)] w fun e w' => e = .returned (.bool (zbd a r x1 x2)) ∧ Below w.heap.size w w' := by
 have Hg := za.mk hg
 clear hg
 go_enter Tryz.func16,Tryz.ntmps16
 go_wp2_with (first
  | ((with_reducible refine zq (N := 2) rfl ?_);refine zn rfl (N := 2) rfl (cs := #[.string x0,.int .i64 x1,.int .i64 x2,.slice A3 n3 c3,.slice A4 n4 c4,.int .i64 x5,.int .i64 x6]) (t := 39) hrq ?_;intro gb hg w2 hbox hb;have BK := za.mk hbox;have HB := za.mk hb;have Ng := za.mk (zo Hg.out hb);have z_0 := (zb BK.out 0).trans rfl;have zf_0 := zc BK.out 0;have z_1 := (zb BK.out 1).trans rfl;have zf_1 := zc BK.out 1;have z_2 := (zb BK.out 2).trans rfl;have zf_2 := zc BK.out 2;have z_3 := (zb BK.out 3).trans rfl;have zf_3 := zc BK.out 3;have z_4 := (zb BK.out 4).trans rfl;have zf_4 := zc BK.out 4;have z_5 := (zb BK.out 5).trans rfl;have zf_5 := zc BK.out 5;have z_6 := (zb BK.out 6).trans rfl;have zf_6 := zc BK.out 6;have zg_0 := (zb Ng.out 0).trans rfl;have zgf_0 := zc Ng.out 0;have zg_1 := (zb Ng.out 1).trans rfl;have zgf_1 := zc Ng.out 1;have zg_2 := (zb Ng.out 2).trans rfl;have zgf_2 := zc Ng.out 2;have zg_3 := (zb Ng.out 3).trans rfl;have zgf_3 := zc Ng.out 3;have zg_4 := (zb Ng.out 4).trans rfl;have zgf_4 := zc Ng.out 4;have zg_5 := (zb Ng.out 5).trans rfl;have zgf_5 := zc Ng.out 5;clear hb hbox hg)
  | (go_at_call 17;(with_reducible refine (zfh.walk a r _ _ _ _ _ _ sx sy x1 x2 _ _ _ _ _ _ x5 x6 _).mono ?_);rintro e w3 ⟨rfl,hb⟩;have HB3 := za.mk (ze HB.out hb);clear hb))
 go_ret
 exact ⟨rfl,HB3.out⟩
set_option maxHeartbeats 4000000 in
set_option maxRecDepth 100000 in
theorem zar.idx (a r : Int) (B2 : Option Addr) (m2 d2 : Nat) (B3 : Option Addr) (m3 d3 : Nat) (sx sy : Int) (g : Nat) (A : Option Addr) (c : Nat) (l : List S39) (w : World) (hr : Kd.C k39 w A l.length l) (hg : w.heap[g]? = some (.cells #[.int .i64 a,.int .i64 r,.slice B2 m2 d2,.slice B3 m3 d3,.int .i64 sx,.int .i64 sy] 35 (0,0))) :
  Calls Tryz.prog 15 #[.slice A l.length c,.func (.func 16) #[] #[.pointer (some ⟨g,0,none⟩)]] w fun e w' => e = .returned (.int .i64 (zcT (zar.p a r B2 m2 d2 B3 m3 d3 sx sy) l)) ∧ Below w.heap.size w w' := by
 have hm := hr.2.1
 have HR := za.mk hr
 have Hg := za.mk hg
 clear hr hg
 go_enter Tryz.func15,Tryz.ntmps15
 go_wp2_with fail
 have HB0 := za.mk (Below.refl w.heap.size w)
 go_loopw [5,8] (fun v5 v8 wr => ∃ k : Nat,v8 = .int .i64 k ∧ k ≤ l.length ∧ za (∀ (j : Nat) (y : S39),j < k → l[j]? = some y → zar.p a r B2 m2 d2 B3 m3 d3 sx sy y = false) ∧ za (Below w.heap.size w wr)) (fun _ v8 _ => l.length - (match v8 with | .int _ q => q | _ => 0).toNat)
 case atStart => exact ⟨0,rfl,Nat.zero_le _,⟨fun j y hj => absurd hj (Nat.not_lt_zero _)⟩,⟨by repeat (first | (with_reducible first | exact HB0.out | apply zl | apply zi | apply zp) | exact HB0.out)⟩⟩
 case round =>
  obtain ⟨k,rfl,hk,HF,HB⟩ := hrel
  by_cases hlt : k < l.length
  ·obtain ⟨ad,A3,c3,A4,c4,rfl,hx0,hx1,hx2,hx3,hx4,hx5,hx6,_,_,_,_⟩ := zbe HR.out (k : Int) (by omega) (by omega)
   replace hx0 := (HB.out.cell (World.block_lt_of_cell? w _ hx0)).trans hx0
   replace hx1 := (HB.out.cell (World.block_lt_of_cell? w _ hx1)).trans hx1
   replace hx2 := (HB.out.cell (World.block_lt_of_cell? w _ hx2)).trans hx2
   replace hx3 := (HB.out.cell (World.block_lt_of_cell? w _ hx3)).trans hx3
   replace hx4 := (HB.out.cell (World.block_lt_of_cell? w _ hx4)).trans hx4
   replace hx5 := (HB.out.cell (World.block_lt_of_cell? w _ hx5)).trans hx5
   replace hx6 := (HB.out.cell (World.block_lt_of_cell? w _ hx6)).trans hx6
   rw [Int.toNat_natCast] at hx0 hx1 hx2 hx3 hx4 hx5 hx6
   have hb : decide (k < l.length) = true := decide_eq_true hlt
   have hx : l[k]? = some (zd l (k : Int)) := by
    rw [zd,Int.toNat_natCast,List.getD_eq_getElem?_getD,List.getElem?_eq_getElem hlt];rfl
   have HX := za.mk hx
   have Ng := za.mk (zo Hg.out HB.out)
   clear hx
   generalize zd l (k : Int) = s at *
   obtain ⟨s0,⟨s1,s2,s3,s4,⟨s5,s6⟩⟩⟩ := s
   rcases ho : zar.p a r B2 m2 d2 B3 m3 d3 sx sy ⟨s0,⟨s1,s2,s3,s4,⟨s5,s6⟩⟩⟩ with _ | _
   ·have HO := za.mk ho
    clear ho
    go_wp2_with (go_at_call 16;(with_reducible refine (zar.odd a r B2 m2 d2 B3 m3 d3 sx sy s0 s1 s2 _ _ _ _ _ _ s5 s6 g _ Ng.out).mono ?_);rintro e w1 ⟨rfl,hb1⟩;rw [show (zbd a r s1 s2) = _ from HO.out];have HB1 := za.mk (ze HB.out hb1);clear hb1)
    go_roundw
    case rel =>
     refine ⟨k + 1,by go_num,by omega,⟨fun j y hj hy => ?_⟩,HB1⟩
     rcases Nat.lt_succ_iff_lt_or_eq.1 hj with h | h
     ·exact HF.out j y h hy
     ·subst h
      rw [HX.out] at hy
      injection hy with hy
      subst hy
      exact HO.out
    case measure => simp;omega
   ·have HO := za.mk ho
    clear ho
    go_wp2_with (go_at_call 16;(with_reducible refine (zar.odd a r B2 m2 d2 B3 m3 d3 sx sy s0 s1 s2 _ _ _ _ _ _ s5 s6 g _ Ng.out).mono ?_);rintro e w1 ⟨rfl,hb1⟩;rw [show (zbd a r s1 s2) = _ from HO.out];have HB1 := za.mk (ze HB.out hb1);clear hb1)
    go_ret
    exact ⟨by rw [zcU HX.out HO.out HF.out];rfl,HB1.out⟩
  ·obtain rfl : k = l.length := by omega
   go_wp2_with fail
   go_ret
   exact ⟨by rw [zcJ (fun j y hy => HF.out j y (List.getElem?_eq_some_iff.1 hy).1 hy)];rfl,HB.out⟩
theorem putE_idx (L : List Ent) (x : Ent) : (zcT (fun y : Ent => zbd x.f1.f0 x.f1.f1 y.f1.f0 y.f1.f1) L = -1 ∧ zea L x = L.take L.length ++ x :: L.drop L.length) ∨ ∃ i : Nat,i < L.length ∧ zcT (fun y : Ent => zbd x.f1.f0 x.f1.f1 y.f1.f0 y.f1.f1) L = i ∧ zea L x = L.take i ++ x :: L.drop i := by
 induction L with
 | nil => exact .inl ⟨rfl,rfl⟩
 | cons y L ih =>
  by_cases h : zbd x.f1.f0 x.f1.f1 y.f1.f0 y.f1.f1 = true
  ·refine .inr ⟨0,by simp,?_,?_⟩
   ·exact zcU (k := 0) (x := y) rfl h (fun j _ hj => absurd hj (Nat.not_lt_zero _))
   ·rw [zea,if_pos h];rfl
  ·have hi : zcT (fun y : Ent => zbd x.f1.f0 x.f1.f1 y.f1.f0 y.f1.f1) (y :: L) = if zcT (fun y : Ent => zbd x.f1.f0 x.f1.f1 y.f1.f0 y.f1.f1) L = -1 then -1 else zcT (fun y : Ent => zbd x.f1.f0 x.f1.f1 y.f1.f0 y.f1.f1) L + 1 := by
    unfold zcT
    rw [List.findIdx?_cons,if_neg h]
    rcases L.findIdx? (fun y : Ent => zbd x.f1.f0 x.f1.f1 y.f1.f0 y.f1.f1) with _ | i
    ·simp
    ·simp <;> omega
   rw [hi,zea,if_neg h]
   rcases ih with ⟨h1,h2⟩ | ⟨i,h1,h2,h3⟩
   ·left
    rw [if_pos h1,h2]
    exact ⟨rfl,by simp⟩
   ·right
    rw [if_neg (by omega),h2,h3]
    exact ⟨i + 1,by rw [List.length_cons];omega,by omega,rfl⟩
structure zcs (w W : World) (g2 g3 g4 : Nat) (o2 o3 o4 : Obj) : Prop where
 b : Below w.heap.size w W
 c2 : W.heap[g2]? = some o2
 c3 : W.heap[g3]? = some o3
 c4 : W.heap[g4]? = some o4
theorem zcs.step {w W W' : World} {g2 g3 g4 : Nat} {o2 o3 o4 : Obj} (h : zcs w W g2 g3 g4 o2 o3 o4) (hb : Below W.heap.size W W') : zcs w W' g2 g3 g4 o2 o3 o4 := ⟨ze h.b hb,zo h.c2 hb,zo h.c3 hb,zo h.c4 hb⟩
theorem zcs.drew {w W : World} {g2 g3 g4 : Nat} {o2 o3 o4 : Obj} (h : zcs w W g2 g3 g4 o2 o3 o4) : zcs w W.drew g2 g3 g4 o2 o3 o4 := ⟨zp h.b,zaf h.c2,zaf h.c3,zaf h.c4⟩
theorem zcs.grown {w w8 W W' : World} {g2 g3 g4 : Nat} {o2 o3 o4 : Obj} (h8 : zcs w w8 g2 g3 g4 o2 o3 o4) (h : zcs w W g2 g3 g4 o2 o3 o4) {row : Option Nat} (hg : W.grownBy W' row) (hr : ∀ k,row = some k → w8.heap.size ≤ k) : zcs w W' g2 g3 g4 o2 o3 o4 :=
 have n := fun {g : Nat} {o : Obj} (hc : w8.heap[g]? = some o) => show some g ≠ row from fun he => by have := hr g he.symm;have := zav hc;omega
 ⟨zdf h.b row (zh h.b) hg (fun k hk => Nat.le_trans (zh h8.b) (hr k hk)),zaL h.c2 hg (n h8.c2),zaL h.c3 hg (n h8.c3),zaL h.c4 hg (n h8.c4)⟩
theorem zcQ {w0 W : World} {P : Nat → Prop} {base : Nat} {v : Value} {L : List Ent} (h : zcD w0 P W base v L) {p : Addr} (hp : p.block < base) (u : Value) : zcD w0 P (W.setCell p u) base v L := by
 obtain ⟨inner,ho,hr⟩ := h
 exact ⟨inner,zgx ho (fun k hk => Below.heap_setCell W p u k (fun e => by have := zcg ho k hk;omega)),hr⟩
theorem zel {w0 W : World} {P : Nat → Prop} {base : Nat} {v : Value} {L : List Ent} (h : zcD w0 P W base v L) : ∀ k,v.ownBlock = some k → base ≤ k := by
 obtain ⟨inner,ho,hr⟩ := h
 exact zcg ho
theorem OwnE_lt {w0 W : World} {P : Nat → Prop} {base : Nat} {v : Value} {L : List Ent} (h : zcD w0 P W base v L) : ∀ k,v.ownBlock = some k → k < W.heap.size := by
 obtain ⟨inner,ho,hr⟩ := h
 exact zgw ho
theorem zdH {w0 W W' : World} {P : Nat → Prop} {base : Nat} {v : Value} {L : List Ent} (h : zcD w0 P W base v L) (hb : Below W.heap.size W W') : zcD w0 P W' base v L := by
 obtain ⟨inner,ho,hr⟩ := h
 exact ⟨inner,zca ho hb,hr⟩
theorem zcs.alloc {w W : World} {g2 g3 g4 : Nat} {o2 o3 o4 : Obj} (h : zcs w W g2 g3 g4 o2 o3 o4) (o : Obj) : zcs w (W.alloc o) g2 g3 g4 o2 o3 o4 := h.step (Below.alloc (Below.refl _ _) (Nat.le_refl _) o)
set_option maxHeartbeats 16000000 in
set_option maxRecDepth 100000 in
theorem zar.not (a0_0 : Int) (a0_1 : Int) (P0_2_ : Nat → Prop) (A0_2 : Option Addr) (c0_2 : Nat) (l0_2 : List (S39)) (a1_0 : Int) (a1_1 : Int) (P1_2_ : Nat → Prop) (A1_2 : Option Addr) (c1_2 : Nat) (l1_2 : List (S75)) (P1_3_ : Nat → Prop) (A1_3 : Option Addr) (c1_3 : Nat) (l1_3 : List ByteArray) (a1_4 : Int) (a1_5 : Int) (D : ByteArray) (e1 : Int) (fnd by_ : Bool) (lost : List ByteArray) (f1 : ByteArray) (f2 f3 : Int) (f4 : List S75) (f5 : List ByteArray) (f6 f7 : Int) (y1 : ByteArray) (y2 y3 : Int) (y4 : List S75) (y5 : List ByteArray) (y6 y7 : Int) (why : Int) (w : World) (hs0_2 : Kd.V k39 39 w w.heap.size (fun k_ => P0_2_ k_) (.slice A0_2 l0_2.length c0_2) l0_2) (hs1_2 : Kd.V k75 75 w w.heap.size (fun k_ => P1_2_ k_) (.slice A1_2 l1_2.length c1_2) l1_2) (hs1_3 : Kd.V Kd.string 9 w w.heap.size (fun k_ => P1_3_ k_) (.slice A1_3 l1_3.length c1_3) l1_3) (hD : za1.f a1_0 a1_1 l1_2 l1_3 a1_4 a1_5 a0_0 = some (D,e1)) (hF : zaD.f a0_0 a0_1 l0_2 D = some (f1,f2,f3,f4,f5,f6,f7,fnd)) (hY : zbE.f a0_0 a0_1 l0_2 a1_0 a1_1 = some (y1,y2,y3,y4,y5,y6,y7,by_))
  (hM : (e1 != 0) = false → decide (a1_1 ≤ a0_1) = false → zag.f a0_0 a0_1 l0_2 a1_0 a1_1 l1_2 l1_3 a1_4 a1_5 = some lost)
  (hw : ((e1 != 0) = true ∧ why = e1) ∨ ((e1 != 0) = false ∧ decide (a1_1 ≤ a0_1) = true ∧ why = 9) ∨ ((e1 != 0) = false ∧ decide (a1_1 ≤ a0_1) = false ∧ fnd = true ∧ why = 8) ∨ ((e1 != 0) = false ∧ decide (a1_1 ≤ a0_1) = false ∧ fnd = false ∧ by_ = true ∧ why = 13) ∨ ((e1 != 0) = false ∧ decide (a1_1 ≤ a0_1) = false ∧ fnd = false ∧ by_ = false ∧ decide (0 < lost.length) = true ∧ decide ((0 : Int) < (lost.length : Int)) = true ∧ why = 11)) :
  Calls Tryz.prog 5 #[.agg #[.int .i64 a0_0,.int .i64 a0_1,.slice A0_2 l0_2.length c0_2],.agg #[.int .i64 a1_0,.int .i64 a1_1,.slice A1_2 l1_2.length c1_2,.slice A1_3 l1_3.length c1_3,.int .i64 a1_4,.int .i64 a1_5]] w fun e w' => e = .returned (.tuple #[.agg #[.int .i64 a0_0,.int .i64 a0_1,.slice A0_2 l0_2.length c0_2],.int .i64 why]) ∧ Below w.heap.size w w' := by
 have HS := za.mk hs0_2
 have HS2 := za.mk hs1_2
 have HS3 := za.mk hs1_3
 have HC := za.mk (Kd.V_reads' hs0_2).2.1
 have HC2 := za.mk (Kd.V_reads' hs1_2).2.1
 have HC3 := za.mk (Kd.V_reads' hs1_3).2.1
 have HD := za.mk hD
 have HF := za.mk hF
 have HY := za.mk hY
 clear hs0_2 hs1_2 hs1_3 hD hF hY
 have HM := za.mk hM
 clear hM
 rcases hw with ⟨d1,rfl⟩ | ⟨d1,d2,rfl⟩ | ⟨d1,d2,rfl,rfl⟩ | ⟨d1,d2,rfl,rfl,rfl⟩ | ⟨d1,d2,rfl,rfl,d5,d6,rfl⟩
 all_goals
  go_enter Tryz.func5,Tryz.ntmps5
  go_wp2_with (first
   | ((with_reducible refine zq (N := 2) rfl ?_);refine zn rfl (N := 2) rfl (cs := #[.int .i64 a0_0,.int .i64 a0_1,.slice A0_2 l0_2.length c0_2]) (t := 26) hrq ?_;intro g2 hg w2 hbox hb;have B2 := za.mk hbox;have HB2 := za.mk hb;have GE2 : za (w.heap.size ≤ g2) := ⟨by rw [hg];exact Nat.le_refl _⟩;clear hb hbox hg)
   | ((with_reducible refine zq (N := 3) rfl ?_);refine zn rfl (N := 3) rfl (cs := #[.int .i64 a1_0,.int .i64 a1_1,.slice A1_2 l1_2.length c1_2,.slice A1_3 l1_3.length c1_3,.int .i64 a1_4,.int .i64 a1_5]) (t := 35) hrq ?_;intro g3 hg w3 hbox hb;have M3 : za (Below w.heap.size w w3 ∧ w3.heap[g2]? = some (.cells #[.int .i64 a0_0,.int .i64 a0_1,.slice A0_2 l0_2.length c0_2] 26 (0,0)) ∧ w3.heap[g3]? = some (.cells #[.int .i64 a1_0,.int .i64 a1_1,.slice A1_2 l1_2.length c1_2,.slice A1_3 l1_3.length c1_3,.int .i64 a1_4,.int .i64 a1_5] 35 (0,0))) := ⟨ze HB2.out hb,zo B2.out hb,hbox⟩;have p0_0 := fun o => (zb (zf M3.out.2.1 o) 0).trans rfl;have p0_1 := fun o => (zb (zf M3.out.2.1 o) 1).trans rfl;have p0_2 := fun o => (zb (zf M3.out.2.1 o) 2).trans rfl;have q0_0 := fun o => (zb (zf M3.out.2.2 o) 0).trans rfl;have q0_1 := fun o => (zb (zf M3.out.2.2 o) 1).trans rfl;have q0_2 := fun o => (zb (zf M3.out.2.2 o) 2).trans rfl;have q0_3 := fun o => (zb (zf M3.out.2.2 o) 3).trans rfl;have q0_4 := fun o => (zb (zf M3.out.2.2 o) 4).trans rfl;have q0_5 := fun o => (zb (zf M3.out.2.2 o) 5).trans rfl;clear hb hbox hg)
   | (go_at_call 11;(with_reducible refine (za1.calls a1_0 a1_1 _ _ l1_2 _ _ l1_3 a1_4 a1_5 a0_0 D _ _ (Kd.C_below (Kd.V_reads' HS2.out).2.2 (zl M3.out.1 _)) HC2.out (Kd.C_below (Kd.V_reads' HS3.out).2.2 (zl M3.out.1 _)) HC3.out HD.out).mono ?_);rintro e w5 ⟨rfl,hb⟩;clear p0_0 p0_1 p0_2 q0_0 q0_1 q0_2 q0_3 q0_4 q0_5;have M5 : za (zcs w w5 g2 g3 w3.heap.size (.cells #[.int .i64 a0_0,.int .i64 a0_1,.slice A0_2 l0_2.length c0_2] 26 (0,0)) (.cells #[.int .i64 a1_0,.int .i64 a1_1,.slice A1_2 l1_2.length c1_2,.slice A1_3 l1_3.length c1_3,.int .i64 a1_4,.int .i64 a1_5] 35 (0,0)) (.cells #[.int .i64 0,.int .i64 0,.slice none 0 0] 26 (0,0))) := ⟨⟨ze (zl M3.out.1 _) hb,zo (zf M3.out.2.1 _) hb,zo (zf M3.out.2.2 _) hb,zo (zbg w3 _) hb⟩⟩;clear hb;have HLE : za (w.heap.size ≤ w3.heap.size) := ⟨zh M3.out.1⟩;have p5_0 := (zb M5.out.c2 0).trans rfl;have pA5_0 := fun o => (zb (zf M5.out.c2 o) 0).trans rfl;have p5_1 := (zb M5.out.c2 1).trans rfl;have pA5_1 := fun o => (zb (zf M5.out.c2 o) 1).trans rfl;have p5_2 := (zb M5.out.c2 2).trans rfl;have pA5_2 := fun o => (zb (zf M5.out.c2 o) 2).trans rfl;have q5_0 := (zb M5.out.c3 0).trans rfl;have qA5_0 := fun o => (zb (zf M5.out.c3 o) 0).trans rfl;have q5_1 := (zb M5.out.c3 1).trans rfl;have qA5_1 := fun o => (zb (zf M5.out.c3 o) 1).trans rfl;have q5_2 := (zb M5.out.c3 2).trans rfl;have qA5_2 := fun o => (zb (zf M5.out.c3 o) 2).trans rfl;have q5_3 := (zb M5.out.c3 3).trans rfl;have qA5_3 := fun o => (zb (zf M5.out.c3 o) 3).trans rfl;have q5_4 := (zb M5.out.c3 4).trans rfl;have qA5_4 := fun o => (zb (zf M5.out.c3 o) 4).trans rfl;have q5_5 := (zb M5.out.c3 5).trans rfl;have qA5_5 := fun o => (zb (zf M5.out.c3 o) 5).trans rfl;have s5_0 := (zb M5.out.c4 0).trans rfl;have sA5_0 := fun o => (zb (zf M5.out.c4 o) 0).trans rfl;have s5_1 := (zb M5.out.c4 1).trans rfl;have sA5_1 := fun o => (zb (zf M5.out.c4 o) 1).trans rfl;have s5_2 := (zb M5.out.c4 2).trans rfl;have sA5_2 := fun o => (zb (zf M5.out.c4 o) 2).trans rfl;have f5_0 := zc M5.out.c4 0;have fA5_0 := fun o => zc (zf M5.out.c4 o) 0;have f5_1 := zc M5.out.c4 1;have fA5_1 := fun o => zc (zf M5.out.c4 o) 1;have f5_2 := zc M5.out.c4 2;have fA5_2 := fun o => zc (zf M5.out.c4 o) 2)
   | (go_at_call 12;(with_reducible refine (zaD.calls a0_0 a0_1 (fun k_ => P0_2_ k_ ∧ k_ < w.heap.size) A0_2 c0_2 l0_2 D _ _ _ _ _ _ _ _ _ (Kd.V_map HS.out (fun _ hf => Kd.F_below (Kd.F_bound hf) M5.out.b)) HF.out).mono ?_);rintro e w6 ⟨v3,v4,rfl,hV3,hV4,hb⟩;obtain ⟨A3,c3,rfl⟩ := Kd.V_slice hV3;obtain ⟨A4,c4,rfl⟩ := Kd.V_slice hV4;clear p5_0 pA5_0 p5_1 pA5_1 p5_2 pA5_2 q5_0 qA5_0 q5_1 qA5_1 q5_2 qA5_2 q5_3 qA5_3 q5_4 qA5_4 q5_5 qA5_5 s5_0 sA5_0 s5_1 sA5_1 s5_2 sA5_2 f5_0 fA5_0 f5_1 fA5_1 f5_2 fA5_2;have M6 := za.mk (M5.out.step hb);clear hb hV3 hV4;have p6_0 := (zb M6.out.c2 0).trans rfl;have pA6_0 := fun o => (zb (zf M6.out.c2 o) 0).trans rfl;have p6_1 := (zb M6.out.c2 1).trans rfl;have pA6_1 := fun o => (zb (zf M6.out.c2 o) 1).trans rfl;have p6_2 := (zb M6.out.c2 2).trans rfl;have pA6_2 := fun o => (zb (zf M6.out.c2 o) 2).trans rfl;have q6_0 := (zb M6.out.c3 0).trans rfl;have qA6_0 := fun o => (zb (zf M6.out.c3 o) 0).trans rfl;have q6_1 := (zb M6.out.c3 1).trans rfl;have qA6_1 := fun o => (zb (zf M6.out.c3 o) 1).trans rfl;have q6_2 := (zb M6.out.c3 2).trans rfl;have qA6_2 := fun o => (zb (zf M6.out.c3 o) 2).trans rfl;have q6_3 := (zb M6.out.c3 3).trans rfl;have qA6_3 := fun o => (zb (zf M6.out.c3 o) 3).trans rfl;have q6_4 := (zb M6.out.c3 4).trans rfl;have qA6_4 := fun o => (zb (zf M6.out.c3 o) 4).trans rfl;have q6_5 := (zb M6.out.c3 5).trans rfl;have qA6_5 := fun o => (zb (zf M6.out.c3 o) 5).trans rfl;have s6_0 := (zb M6.out.c4 0).trans rfl;have sA6_0 := fun o => (zb (zf M6.out.c4 o) 0).trans rfl;have s6_1 := (zb M6.out.c4 1).trans rfl;have sA6_1 := fun o => (zb (zf M6.out.c4 o) 1).trans rfl;have s6_2 := (zb M6.out.c4 2).trans rfl;have sA6_2 := fun o => (zb (zf M6.out.c4 o) 2).trans rfl;have f6_0 := zc M6.out.c4 0;have fA6_0 := fun o => zc (zf M6.out.c4 o) 0;have f6_1 := zc M6.out.c4 1;have fA6_1 := fun o => zc (zf M6.out.c4 o) 1;have f6_2 := zc M6.out.c4 2;have fA6_2 := fun o => zc (zf M6.out.c4 o) 2)
   | (go_at_call 13;(with_reducible refine (zbE.calls a0_0 a0_1 (fun k_ => P0_2_ k_ ∧ k_ < w.heap.size) A0_2 c0_2 l0_2 a1_0 a1_1 _ _ _ _ _ _ _ _ _ (Kd.V_map HS.out (fun _ hf => Kd.F_below (Kd.F_bound hf) (zl M6.out.b _))) HY.out).mono ?_);rintro e w7 ⟨v3,v4,rfl,hV3,hV4,hb⟩;obtain ⟨A5,c5,rfl⟩ := Kd.V_slice hV3;obtain ⟨A6,c6,rfl⟩ := Kd.V_slice hV4;clear p6_0 pA6_0 p6_1 pA6_1 p6_2 pA6_2 q6_0 qA6_0 q6_1 qA6_1 q6_2 qA6_2 q6_3 qA6_3 q6_4 qA6_4 q6_5 qA6_5 s6_0 sA6_0 s6_1 sA6_1 s6_2 sA6_2 f6_0 fA6_0 f6_1 fA6_1 f6_2 fA6_2;have M7 := za.mk ((M6.out.alloc _).step hb);clear hb hV3 hV4;have p7_0 := (zb M7.out.c2 0).trans rfl;have pA7_0 := fun o => (zb (zf M7.out.c2 o) 0).trans rfl;have p7_1 := (zb M7.out.c2 1).trans rfl;have pA7_1 := fun o => (zb (zf M7.out.c2 o) 1).trans rfl;have p7_2 := (zb M7.out.c2 2).trans rfl;have pA7_2 := fun o => (zb (zf M7.out.c2 o) 2).trans rfl;have q7_0 := (zb M7.out.c3 0).trans rfl;have qA7_0 := fun o => (zb (zf M7.out.c3 o) 0).trans rfl;have q7_1 := (zb M7.out.c3 1).trans rfl;have qA7_1 := fun o => (zb (zf M7.out.c3 o) 1).trans rfl;have q7_2 := (zb M7.out.c3 2).trans rfl;have qA7_2 := fun o => (zb (zf M7.out.c3 o) 2).trans rfl;have q7_3 := (zb M7.out.c3 3).trans rfl;have qA7_3 := fun o => (zb (zf M7.out.c3 o) 3).trans rfl;have q7_4 := (zb M7.out.c3 4).trans rfl;have qA7_4 := fun o => (zb (zf M7.out.c3 o) 4).trans rfl;have q7_5 := (zb M7.out.c3 5).trans rfl;have qA7_5 := fun o => (zb (zf M7.out.c3 o) 5).trans rfl;have s7_0 := (zb M7.out.c4 0).trans rfl;have sA7_0 := fun o => (zb (zf M7.out.c4 o) 0).trans rfl;have s7_1 := (zb M7.out.c4 1).trans rfl;have sA7_1 := fun o => (zb (zf M7.out.c4 o) 1).trans rfl;have s7_2 := (zb M7.out.c4 2).trans rfl;have sA7_2 := fun o => (zb (zf M7.out.c4 o) 2).trans rfl;have f7_0 := zc M7.out.c4 0;have fA7_0 := fun o => zc (zf M7.out.c4 o) 0;have f7_1 := zc M7.out.c4 1;have fA7_1 := fun o => zc (zf M7.out.c4 o) 1;have f7_2 := zc M7.out.c4 2;have fA7_2 := fun o => zc (zf M7.out.c4 o) 2)
   | (go_at_call 14;(with_reducible refine (zag.calls a0_0 a0_1 _ _ l0_2 a1_0 a1_1 _ _ l1_2 _ _ l1_3 a1_4 a1_5 lost _ (Kd.C_below (Kd.V_reads' HS.out).2.2 (zl M7.out.b _)) HC.out (Kd.C_below (Kd.V_reads' HS2.out).2.2 (zl M7.out.b _)) HC2.out (Kd.C_below (Kd.V_reads' HS3.out).2.2 (zl M7.out.b _)) HC3.out (HM.out d1 d2)).mono ?_);rintro e w8 ⟨v0,rfl,hR,hb⟩;obtain ⟨A7,c7,rfl⟩ := Kd.R_slice hR;clear p7_0 pA7_0 p7_1 pA7_1 p7_2 pA7_2 q7_0 qA7_0 q7_1 qA7_1 q7_2 qA7_2 q7_3 qA7_3 q7_4 qA7_4 q7_5 qA7_5 s7_0 sA7_0 s7_1 sA7_1 s7_2 sA7_2 f7_0 fA7_0 f7_1 fA7_1 f7_2 fA7_2;have M8 := za.mk ((M7.out.alloc _).step hb);clear hb hR;have p8_0 := (zb M8.out.c2 0).trans rfl;have pA8_0 := fun o => (zb (zf M8.out.c2 o) 0).trans rfl;have p8_1 := (zb M8.out.c2 1).trans rfl;have pA8_1 := fun o => (zb (zf M8.out.c2 o) 1).trans rfl;have p8_2 := (zb M8.out.c2 2).trans rfl;have pA8_2 := fun o => (zb (zf M8.out.c2 o) 2).trans rfl;have q8_0 := (zb M8.out.c3 0).trans rfl;have qA8_0 := fun o => (zb (zf M8.out.c3 o) 0).trans rfl;have q8_1 := (zb M8.out.c3 1).trans rfl;have qA8_1 := fun o => (zb (zf M8.out.c3 o) 1).trans rfl;have q8_2 := (zb M8.out.c3 2).trans rfl;have qA8_2 := fun o => (zb (zf M8.out.c3 o) 2).trans rfl;have q8_3 := (zb M8.out.c3 3).trans rfl;have qA8_3 := fun o => (zb (zf M8.out.c3 o) 3).trans rfl;have q8_4 := (zb M8.out.c3 4).trans rfl;have qA8_4 := fun o => (zb (zf M8.out.c3 o) 4).trans rfl;have q8_5 := (zb M8.out.c3 5).trans rfl;have qA8_5 := fun o => (zb (zf M8.out.c3 o) 5).trans rfl;have s8_0 := (zb M8.out.c4 0).trans rfl;have sA8_0 := fun o => (zb (zf M8.out.c4 o) 0).trans rfl;have s8_1 := (zb M8.out.c4 1).trans rfl;have sA8_1 := fun o => (zb (zf M8.out.c4 o) 1).trans rfl;have s8_2 := (zb M8.out.c4 2).trans rfl;have sA8_2 := fun o => (zb (zf M8.out.c4 o) 2).trans rfl;have f8_0 := zc M8.out.c4 0;have fA8_0 := fun o => zc (zf M8.out.c4 o) 0;have f8_1 := zc M8.out.c4 1;have fA8_1 := fun o => zc (zf M8.out.c4 o) 1;have f8_2 := zc M8.out.c4 2;have fA8_2 := fun o => zc (zf M8.out.c4 o) 2))
  first
   | (refine bodyPost_ret (zbh rfl _ _ w3.heap.size 26 _ (0,0) _ rfl (zX (zX (zX M8.out.c4 0 _) 1 _) 2 _) Tryz.underlying26 rfl (by kernel_rfl)) rfl ?_;exact ⟨rfl,zm (zm (zm M8.out.b HLE.out) HLE.out) HLE.out⟩)
   | (refine bodyPost_ret (zbh rfl _ _ w3.heap.size 26 _ (0,0) _ rfl (zX (zX (zX (M7.out.alloc _).c4 0 _) 1 _) 2 _) Tryz.underlying26 rfl (by kernel_rfl)) rfl ?_;exact ⟨rfl,zm (zm (zm (M7.out.alloc _).b HLE.out) HLE.out) HLE.out⟩)
   | (refine bodyPost_ret (zbh rfl _ _ w3.heap.size 26 _ (0,0) _ rfl (zX (zX (zX (M6.out.alloc _).c4 0 _) 1 _) 2 _) Tryz.underlying26 rfl (by kernel_rfl)) rfl ?_;exact ⟨rfl,zm (zm (zm (M6.out.alloc _).b HLE.out) HLE.out) HLE.out⟩)
   | (refine bodyPost_ret (zbh rfl _ _ w3.heap.size 26 _ (0,0) _ rfl (zX (zX (zX M5.out.c4 0 _) 1 _) 2 _) Tryz.underlying26 rfl (by kernel_rfl)) rfl ?_;exact ⟨rfl,zm (zm (zm M5.out.b HLE.out) HLE.out) HLE.out⟩)
set_option maxHeartbeats 16000000 in
set_option maxRecDepth 100000 in
theorem zar.yes (a0_0 : Int) (a0_1 : Int) (P0_2_ : Nat → Prop) (A0_2 : Option Addr) (c0_2 : Nat) (l0_2 : List (S39)) (a1_0 : Int) (a1_1 : Int) (P1_2_ : Nat → Prop) (A1_2 : Option Addr) (c1_2 : Nat) (l1_2 : List (S75)) (P1_3_ : Nat → Prop) (A1_3 : Option Addr) (c1_3 : Nat) (l1_3 : List ByteArray) (a1_4 : Int) (a1_5 : Int) (D : ByteArray) (e1 : Int) (fnd by_ : Bool) (lost : List ByteArray) (f1 : ByteArray) (f2 f3 : Int) (f4 : List S75) (f5 : List ByteArray) (f6 f7 : Int) (y1 : ByteArray) (y2 y3 : Int) (y4 : List S75) (y5 : List ByteArray) (y6 y7 : Int) (i0 : Nat) (hi0 : i0 ≤ l0_2.length) (w : World) (hs0_2 : Kd.V k39 39 w w.heap.size (fun k_ => P0_2_ k_) (.slice A0_2 l0_2.length c0_2) l0_2) (hs1_2 : Kd.V k75 75 w w.heap.size (fun k_ => P1_2_ k_) (.slice A1_2 l1_2.length c1_2) l1_2) (hs1_3 : Kd.V Kd.string 9 w w.heap.size (fun k_ => P1_3_ k_) (.slice A1_3 l1_3.length c1_3) l1_3) (hD : za1.f a1_0 a1_1 l1_2 l1_3 a1_4 a1_5 a0_0 = some (D,e1)) (hF : zaD.f a0_0 a0_1 l0_2 D = some (f1,f2,f3,f4,f5,f6,f7,fnd)) (hY : zbE.f a0_0 a0_1 l0_2 a1_0 a1_1 = some (y1,y2,y3,y4,y5,y6,y7,by_)) (hl : l0_2.length < 1466015503701)
  (hM : zag.f a0_0 a0_1 l0_2 a1_0 a1_1 l1_2 l1_3 a1_4 a1_5 = some lost) (d1 : (e1 != 0) = false) (d2 : decide (a1_1 ≤ a0_1) = false) (d3 : fnd = false) (d4 : by_ = false) (d5 : decide (0 < lost.length) = false) (d6 : decide ((0 : Int) < (lost.length : Int)) = false)
  (hI : zcT (zar.p a1_0 a1_1 A1_2 l1_2.length c1_2 A1_3 l1_3.length c1_3 a1_4 a1_5) l0_2 = -1 ∧ i0 = l0_2.length ∨ zcT (zar.p a1_0 a1_1 A1_2 l1_2.length c1_2 A1_3 l1_3.length c1_3 a1_4 a1_5) l0_2 = i0) :
  Calls Tryz.prog 5 #[.agg #[.int .i64 a0_0,.int .i64 a0_1,.slice A0_2 l0_2.length c0_2],.agg #[.int .i64 a1_0,.int .i64 a1_1,.slice A1_2 l1_2.length c1_2,.slice A1_3 l1_3.length c1_3,.int .i64 a1_4,.int .i64 a1_5]] w fun e w' => ∃ v2_ : Value,e = .returned (.tuple #[.agg #[.int .i64 a0_0,.int .i64 a0_1,v2_],.int .i64 0]) ∧ Kd.V k39 39 w' w.heap.size (fun k_ => ((P0_2_ k_ ∨ P1_2_ k_ ∨ P1_3_ k_) ∨ w.heap.size ≤ k_)) v2_ (l0_2.take i0 ++ ⟨D,⟨a1_0,a1_1,l1_2,l1_3,⟨a1_4,a1_5⟩⟩⟩ :: l0_2.drop i0) ∧ Below w.heap.size w w' := by
 subst d3 d4
 have HS := za.mk hs0_2
 have HS2 := za.mk hs1_2
 have HS3 := za.mk hs1_3
 have HC := za.mk (Kd.V_reads' hs0_2).2.1
 have HC2 := za.mk (Kd.V_reads' hs1_2).2.1
 have HC3 := za.mk (Kd.V_reads' hs1_3).2.1
 have HFL : za (Kd.F k39 w (fun k_ => P0_2_ k_ ∨ P1_2_ k_ ∨ P1_3_ k_) A0_2 l0_2.length l0_2) := ⟨Kd.F_mono (Kd.V_at hs0_2).2.2 (fun _ hk => .inl hk)⟩
 have HX : za (RE w (fun k_ => P0_2_ k_ ∨ P1_2_ k_ ∨ P1_3_ k_) ⟨D,⟨a1_0,a1_1,l1_2,l1_3,⟨a1_4,a1_5⟩⟩⟩ [.string D,.int .i64 a1_0,.int .i64 a1_1,.slice A1_2 l1_2.length c1_2,.slice A1_3 l1_3.length c1_3,.int .i64 a1_4,.int .i64 a1_5]) := ⟨zhy w _ ⟨D,⟨a1_0,a1_1,l1_2,l1_3,⟨a1_4,a1_5⟩⟩⟩ (Kd.V_at hs1_2).2.1 (Kd.F_mono (Kd.V_at hs1_2).2.2 (fun _ hk => .inr (.inl hk))) (Kd.V_at hs1_3).2.1 (Kd.F_mono (Kd.V_at hs1_3).2.2 (fun _ hk => .inr (.inr hk)))⟩
 have HD := za.mk hD
 have HF := za.mk hF
 have HY := za.mk hY
 have HL := za.mk hl
 have HI0 := za.mk hi0
 have HM : za ((e1 != 0) = false → decide (a1_1 ≤ a0_1) = false → zag.f a0_0 a0_1 l0_2 a1_0 a1_1 l1_2 l1_3 a1_4 a1_5 = some lost) := ⟨fun _ _ => hM⟩
 clear hs0_2 hs1_2 hs1_3 hD hF hY hM hl hi0
 obtain ⟨z,hz⟩ : ∃ z,z = zcT (zar.p a1_0 a1_1 A1_2 l1_2.length c1_2 A1_3 l1_3.length c1_3 a1_4 a1_5) l0_2 := ⟨_,rfl⟩
 rw [← hz] at hI
 have HI := za.mk hz.symm
 have HZ := za.mk hI
 clear hz hI
 go_enter Tryz.func5,Tryz.ntmps5
 go_upto_if 62 with (first
  | ((with_reducible refine zq (N := 2) rfl ?_);refine zn rfl (N := 2) rfl (cs := #[.int .i64 a0_0,.int .i64 a0_1,.slice A0_2 l0_2.length c0_2]) (t := 26) hrq ?_;intro g2 hg w2 hbox hb;have B2 := za.mk hbox;have HB2 := za.mk hb;have GE2 : za (w.heap.size ≤ g2) := ⟨by rw [hg];exact Nat.le_refl _⟩;clear hb hbox hg)
  | ((with_reducible refine zq (N := 3) rfl ?_);refine zn rfl (N := 3) rfl (cs := #[.int .i64 a1_0,.int .i64 a1_1,.slice A1_2 l1_2.length c1_2,.slice A1_3 l1_3.length c1_3,.int .i64 a1_4,.int .i64 a1_5]) (t := 35) hrq ?_;intro g3 hg w3 hbox hb;have M3 : za (Below w.heap.size w w3 ∧ w3.heap[g2]? = some (.cells #[.int .i64 a0_0,.int .i64 a0_1,.slice A0_2 l0_2.length c0_2] 26 (0,0)) ∧ w3.heap[g3]? = some (.cells #[.int .i64 a1_0,.int .i64 a1_1,.slice A1_2 l1_2.length c1_2,.slice A1_3 l1_3.length c1_3,.int .i64 a1_4,.int .i64 a1_5] 35 (0,0))) := ⟨ze HB2.out hb,zo B2.out hb,hbox⟩;have p0_0 := fun o => (zb (zf M3.out.2.1 o) 0).trans rfl;have p0_1 := fun o => (zb (zf M3.out.2.1 o) 1).trans rfl;have p0_2 := fun o => (zb (zf M3.out.2.1 o) 2).trans rfl;have q0_0 := fun o => (zb (zf M3.out.2.2 o) 0).trans rfl;have q0_1 := fun o => (zb (zf M3.out.2.2 o) 1).trans rfl;have q0_2 := fun o => (zb (zf M3.out.2.2 o) 2).trans rfl;have q0_3 := fun o => (zb (zf M3.out.2.2 o) 3).trans rfl;have q0_4 := fun o => (zb (zf M3.out.2.2 o) 4).trans rfl;have q0_5 := fun o => (zb (zf M3.out.2.2 o) 5).trans rfl;clear hb hbox hg)
  | (go_at_call 11;(with_reducible refine (za1.calls a1_0 a1_1 _ _ l1_2 _ _ l1_3 a1_4 a1_5 a0_0 D _ _ (Kd.C_below (Kd.V_reads' HS2.out).2.2 (zl M3.out.1 _)) HC2.out (Kd.C_below (Kd.V_reads' HS3.out).2.2 (zl M3.out.1 _)) HC3.out HD.out).mono ?_);rintro e w5 ⟨rfl,hb⟩;clear p0_0 p0_1 p0_2 q0_0 q0_1 q0_2 q0_3 q0_4 q0_5;have M5 : za (zcs w w5 g2 g3 w3.heap.size (.cells #[.int .i64 a0_0,.int .i64 a0_1,.slice A0_2 l0_2.length c0_2] 26 (0,0)) (.cells #[.int .i64 a1_0,.int .i64 a1_1,.slice A1_2 l1_2.length c1_2,.slice A1_3 l1_3.length c1_3,.int .i64 a1_4,.int .i64 a1_5] 35 (0,0)) (.cells #[.int .i64 0,.int .i64 0,.slice none 0 0] 26 (0,0))) := ⟨⟨ze (zl M3.out.1 _) hb,zo (zf M3.out.2.1 _) hb,zo (zf M3.out.2.2 _) hb,zo (zbg w3 _) hb⟩⟩;clear hb;have HLE : za (w.heap.size ≤ w3.heap.size) := ⟨zh M3.out.1⟩;have p5_0 := (zb M5.out.c2 0).trans rfl;have pA5_0 := fun o => (zb (zf M5.out.c2 o) 0).trans rfl;have p5_1 := (zb M5.out.c2 1).trans rfl;have pA5_1 := fun o => (zb (zf M5.out.c2 o) 1).trans rfl;have p5_2 := (zb M5.out.c2 2).trans rfl;have pA5_2 := fun o => (zb (zf M5.out.c2 o) 2).trans rfl;have q5_0 := (zb M5.out.c3 0).trans rfl;have qA5_0 := fun o => (zb (zf M5.out.c3 o) 0).trans rfl;have q5_1 := (zb M5.out.c3 1).trans rfl;have qA5_1 := fun o => (zb (zf M5.out.c3 o) 1).trans rfl;have q5_2 := (zb M5.out.c3 2).trans rfl;have qA5_2 := fun o => (zb (zf M5.out.c3 o) 2).trans rfl;have q5_3 := (zb M5.out.c3 3).trans rfl;have qA5_3 := fun o => (zb (zf M5.out.c3 o) 3).trans rfl;have q5_4 := (zb M5.out.c3 4).trans rfl;have qA5_4 := fun o => (zb (zf M5.out.c3 o) 4).trans rfl;have q5_5 := (zb M5.out.c3 5).trans rfl;have qA5_5 := fun o => (zb (zf M5.out.c3 o) 5).trans rfl;have s5_0 := (zb M5.out.c4 0).trans rfl;have sA5_0 := fun o => (zb (zf M5.out.c4 o) 0).trans rfl;have s5_1 := (zb M5.out.c4 1).trans rfl;have sA5_1 := fun o => (zb (zf M5.out.c4 o) 1).trans rfl;have s5_2 := (zb M5.out.c4 2).trans rfl;have sA5_2 := fun o => (zb (zf M5.out.c4 o) 2).trans rfl;have f5_0 := zc M5.out.c4 0;have fA5_0 := fun o => zc (zf M5.out.c4 o) 0;have f5_1 := zc M5.out.c4 1;have fA5_1 := fun o => zc (zf M5.out.c4 o) 1;have f5_2 := zc M5.out.c4 2;have fA5_2 := fun o => zc (zf M5.out.c4 o) 2)
  | (go_at_call 12;(with_reducible refine (zaD.calls a0_0 a0_1 (fun k_ => P0_2_ k_ ∧ k_ < w.heap.size) A0_2 c0_2 l0_2 D _ _ _ _ _ _ _ _ _ (Kd.V_map HS.out (fun _ hf => Kd.F_below (Kd.F_bound hf) M5.out.b)) HF.out).mono ?_);rintro e w6 ⟨v3,v4,rfl,hV3,hV4,hb⟩;obtain ⟨A3,c3,rfl⟩ := Kd.V_slice hV3;obtain ⟨A4,c4,rfl⟩ := Kd.V_slice hV4;clear p5_0 pA5_0 p5_1 pA5_1 p5_2 pA5_2 q5_0 qA5_0 q5_1 qA5_1 q5_2 qA5_2 q5_3 qA5_3 q5_4 qA5_4 q5_5 qA5_5 s5_0 sA5_0 s5_1 sA5_1 s5_2 sA5_2 f5_0 fA5_0 f5_1 fA5_1 f5_2 fA5_2;have M6 := za.mk (M5.out.step hb);clear hb hV3 hV4;have p6_0 := (zb M6.out.c2 0).trans rfl;have pA6_0 := fun o => (zb (zf M6.out.c2 o) 0).trans rfl;have p6_1 := (zb M6.out.c2 1).trans rfl;have pA6_1 := fun o => (zb (zf M6.out.c2 o) 1).trans rfl;have p6_2 := (zb M6.out.c2 2).trans rfl;have pA6_2 := fun o => (zb (zf M6.out.c2 o) 2).trans rfl;have q6_0 := (zb M6.out.c3 0).trans rfl;have qA6_0 := fun o => (zb (zf M6.out.c3 o) 0).trans rfl;have q6_1 := (zb M6.out.c3 1).trans rfl;have qA6_1 := fun o => (zb (zf M6.out.c3 o) 1).trans rfl;have q6_2 := (zb M6.out.c3 2).trans rfl;have qA6_2 := fun o => (zb (zf M6.out.c3 o) 2).trans rfl;have q6_3 := (zb M6.out.c3 3).trans rfl;have qA6_3 := fun o => (zb (zf M6.out.c3 o) 3).trans rfl;have q6_4 := (zb M6.out.c3 4).trans rfl;have qA6_4 := fun o => (zb (zf M6.out.c3 o) 4).trans rfl;have q6_5 := (zb M6.out.c3 5).trans rfl;have qA6_5 := fun o => (zb (zf M6.out.c3 o) 5).trans rfl;have s6_0 := (zb M6.out.c4 0).trans rfl;have sA6_0 := fun o => (zb (zf M6.out.c4 o) 0).trans rfl;have s6_1 := (zb M6.out.c4 1).trans rfl;have sA6_1 := fun o => (zb (zf M6.out.c4 o) 1).trans rfl;have s6_2 := (zb M6.out.c4 2).trans rfl;have sA6_2 := fun o => (zb (zf M6.out.c4 o) 2).trans rfl;have f6_0 := zc M6.out.c4 0;have fA6_0 := fun o => zc (zf M6.out.c4 o) 0;have f6_1 := zc M6.out.c4 1;have fA6_1 := fun o => zc (zf M6.out.c4 o) 1;have f6_2 := zc M6.out.c4 2;have fA6_2 := fun o => zc (zf M6.out.c4 o) 2)
  | (go_at_call 13;(with_reducible refine (zbE.calls a0_0 a0_1 (fun k_ => P0_2_ k_ ∧ k_ < w.heap.size) A0_2 c0_2 l0_2 a1_0 a1_1 _ _ _ _ _ _ _ _ _ (Kd.V_map HS.out (fun _ hf => Kd.F_below (Kd.F_bound hf) (zl M6.out.b _))) HY.out).mono ?_);rintro e w7 ⟨v3,v4,rfl,hV3,hV4,hb⟩;obtain ⟨A5,c5,rfl⟩ := Kd.V_slice hV3;obtain ⟨A6,c6,rfl⟩ := Kd.V_slice hV4;clear p6_0 pA6_0 p6_1 pA6_1 p6_2 pA6_2 q6_0 qA6_0 q6_1 qA6_1 q6_2 qA6_2 q6_3 qA6_3 q6_4 qA6_4 q6_5 qA6_5 s6_0 sA6_0 s6_1 sA6_1 s6_2 sA6_2 f6_0 fA6_0 f6_1 fA6_1 f6_2 fA6_2;have M7 := za.mk ((M6.out.alloc _).step hb);clear hb hV3 hV4;have p7_0 := (zb M7.out.c2 0).trans rfl;have pA7_0 := fun o => (zb (zf M7.out.c2 o) 0).trans rfl;have p7_1 := (zb M7.out.c2 1).trans rfl;have pA7_1 := fun o => (zb (zf M7.out.c2 o) 1).trans rfl;have p7_2 := (zb M7.out.c2 2).trans rfl;have pA7_2 := fun o => (zb (zf M7.out.c2 o) 2).trans rfl;have q7_0 := (zb M7.out.c3 0).trans rfl;have qA7_0 := fun o => (zb (zf M7.out.c3 o) 0).trans rfl;have q7_1 := (zb M7.out.c3 1).trans rfl;have qA7_1 := fun o => (zb (zf M7.out.c3 o) 1).trans rfl;have q7_2 := (zb M7.out.c3 2).trans rfl;have qA7_2 := fun o => (zb (zf M7.out.c3 o) 2).trans rfl;have q7_3 := (zb M7.out.c3 3).trans rfl;have qA7_3 := fun o => (zb (zf M7.out.c3 o) 3).trans rfl;have q7_4 := (zb M7.out.c3 4).trans rfl;have qA7_4 := fun o => (zb (zf M7.out.c3 o) 4).trans rfl;have q7_5 := (zb M7.out.c3 5).trans rfl;have qA7_5 := fun o => (zb (zf M7.out.c3 o) 5).trans rfl;have s7_0 := (zb M7.out.c4 0).trans rfl;have sA7_0 := fun o => (zb (zf M7.out.c4 o) 0).trans rfl;have s7_1 := (zb M7.out.c4 1).trans rfl;have sA7_1 := fun o => (zb (zf M7.out.c4 o) 1).trans rfl;have s7_2 := (zb M7.out.c4 2).trans rfl;have sA7_2 := fun o => (zb (zf M7.out.c4 o) 2).trans rfl;have f7_0 := zc M7.out.c4 0;have fA7_0 := fun o => zc (zf M7.out.c4 o) 0;have f7_1 := zc M7.out.c4 1;have fA7_1 := fun o => zc (zf M7.out.c4 o) 1;have f7_2 := zc M7.out.c4 2;have fA7_2 := fun o => zc (zf M7.out.c4 o) 2)
  | (go_at_call 14;(with_reducible refine (zag.calls a0_0 a0_1 _ _ l0_2 a1_0 a1_1 _ _ l1_2 _ _ l1_3 a1_4 a1_5 lost _ (Kd.C_below (Kd.V_reads' HS.out).2.2 (zl M7.out.b _)) HC.out (Kd.C_below (Kd.V_reads' HS2.out).2.2 (zl M7.out.b _)) HC2.out (Kd.C_below (Kd.V_reads' HS3.out).2.2 (zl M7.out.b _)) HC3.out (HM.out d1 d2)).mono ?_);rintro e w8 ⟨v0,rfl,hR,hb⟩;obtain ⟨A7,c7,rfl⟩ := Kd.R_slice hR;clear p7_0 pA7_0 p7_1 pA7_1 p7_2 pA7_2 q7_0 qA7_0 q7_1 qA7_1 q7_2 qA7_2 q7_3 qA7_3 q7_4 qA7_4 q7_5 qA7_5 s7_0 sA7_0 s7_1 sA7_1 s7_2 sA7_2 f7_0 fA7_0 f7_1 fA7_1 f7_2 fA7_2;have M8 := za.mk ((M7.out.alloc _).step hb);clear hb hR;have p8_0 := (zb M8.out.c2 0).trans rfl;have pA8_0 := fun o => (zb (zf M8.out.c2 o) 0).trans rfl;have p8_1 := (zb M8.out.c2 1).trans rfl;have pA8_1 := fun o => (zb (zf M8.out.c2 o) 1).trans rfl;have p8_2 := (zb M8.out.c2 2).trans rfl;have pA8_2 := fun o => (zb (zf M8.out.c2 o) 2).trans rfl;have q8_0 := (zb M8.out.c3 0).trans rfl;have qA8_0 := fun o => (zb (zf M8.out.c3 o) 0).trans rfl;have q8_1 := (zb M8.out.c3 1).trans rfl;have qA8_1 := fun o => (zb (zf M8.out.c3 o) 1).trans rfl;have q8_2 := (zb M8.out.c3 2).trans rfl;have qA8_2 := fun o => (zb (zf M8.out.c3 o) 2).trans rfl;have q8_3 := (zb M8.out.c3 3).trans rfl;have qA8_3 := fun o => (zb (zf M8.out.c3 o) 3).trans rfl;have q8_4 := (zb M8.out.c3 4).trans rfl;have qA8_4 := fun o => (zb (zf M8.out.c3 o) 4).trans rfl;have q8_5 := (zb M8.out.c3 5).trans rfl;have qA8_5 := fun o => (zb (zf M8.out.c3 o) 5).trans rfl;have s8_0 := (zb M8.out.c4 0).trans rfl;have sA8_0 := fun o => (zb (zf M8.out.c4 o) 0).trans rfl;have s8_1 := (zb M8.out.c4 1).trans rfl;have sA8_1 := fun o => (zb (zf M8.out.c4 o) 1).trans rfl;have s8_2 := (zb M8.out.c4 2).trans rfl;have sA8_2 := fun o => (zb (zf M8.out.c4 o) 2).trans rfl;have f8_0 := zc M8.out.c4 0;have fA8_0 := fun o => zc (zf M8.out.c4 o) 0;have f8_1 := zc M8.out.c4 1;have fA8_1 := fun o => zc (zf M8.out.c4 o) 1;have f8_2 := zc M8.out.c4 2;have fA8_2 := fun o => zc (zf M8.out.c4 o) 2)
  | (go_at_call 15;(with_reducible refine (zar.idx a1_0 a1_1 A1_2 l1_2.length c1_2 A1_3 l1_3.length c1_3 a1_4 a1_5 g3 A0_2 c0_2 l0_2 _ (Kd.C_below (Kd.V_reads' HS.out).2.2 M8.out.b) M8.out.c3).mono ?_);rintro e w9 ⟨rfl,hb⟩;rw [HI.out];clear p8_0 pA8_0 p8_1 pA8_1 p8_2 pA8_2 q8_0 qA8_0 q8_1 qA8_1 q8_2 qA8_2 q8_3 qA8_3 q8_4 qA8_4 q8_5 qA8_5 s8_0 sA8_0 s8_1 sA8_1 s8_2 sA8_2 f8_0 fA8_0 f8_1 fA8_1 f8_2 fA8_2;have M9 := za.mk (M8.out.step hb);clear hb;have p9_0 := (zb M9.out.c2 0).trans rfl;have pA9_0 := fun o => (zb (zf M9.out.c2 o) 0).trans rfl;have p9_1 := (zb M9.out.c2 1).trans rfl;have pA9_1 := fun o => (zb (zf M9.out.c2 o) 1).trans rfl;have p9_2 := (zb M9.out.c2 2).trans rfl;have pA9_2 := fun o => (zb (zf M9.out.c2 o) 2).trans rfl;have q9_0 := (zb M9.out.c3 0).trans rfl;have qA9_0 := fun o => (zb (zf M9.out.c3 o) 0).trans rfl;have q9_1 := (zb M9.out.c3 1).trans rfl;have qA9_1 := fun o => (zb (zf M9.out.c3 o) 1).trans rfl;have q9_2 := (zb M9.out.c3 2).trans rfl;have qA9_2 := fun o => (zb (zf M9.out.c3 o) 2).trans rfl;have q9_3 := (zb M9.out.c3 3).trans rfl;have qA9_3 := fun o => (zb (zf M9.out.c3 o) 3).trans rfl;have q9_4 := (zb M9.out.c3 4).trans rfl;have qA9_4 := fun o => (zb (zf M9.out.c3 o) 4).trans rfl;have q9_5 := (zb M9.out.c3 5).trans rfl;have qA9_5 := fun o => (zb (zf M9.out.c3 o) 5).trans rfl;have s9_0 := (zb M9.out.c4 0).trans rfl;have sA9_0 := fun o => (zb (zf M9.out.c4 o) 0).trans rfl;have s9_1 := (zb M9.out.c4 1).trans rfl;have sA9_1 := fun o => (zb (zf M9.out.c4 o) 1).trans rfl;have s9_2 := (zb M9.out.c4 2).trans rfl;have sA9_2 := fun o => (zb (zf M9.out.c4 o) 2).trans rfl;have f9_0 := zc M9.out.c4 0;have fA9_0 := fun o => zc (zf M9.out.c4 o) 0;have f9_1 := zc M9.out.c4 1;have fA9_1 := fun o => zc (zf M9.out.c4 o) 1;have f9_2 := zc M9.out.c4 2;have fA9_2 := fun o => zc (zf M9.out.c4 o) 2))
 go_cut [12] (fun v12 wc => v12 = .int .i64 (i0 : Int) ∧ w9 = wc)
 case first =>
  rcases HZ.out with ⟨hz,hi⟩ | hz
  ·subst hz
   have hi' : (i0 : Int) = (l0_2.length : Int) := by omega
   clear hi
   go_wp2_with fail
   go_meet
   case rel => exact ⟨by rw [hi'],rfl⟩
  ·subst hz
   have hb0 : decide ((i0 : Int) < 0) = false := decide_eq_false (by omega)
   go_wp2_with fail
   go_meet
   case rel => exact ⟨rfl,rfl⟩
 case rest =>
  obtain ⟨rfl,hwc⟩ := hcut
  subst hwc
  go_wp2_with fail
  go_region_with (first
   | (go_at_call 19;(with_reducible refine (zgh w (fun k_ => P0_2_ k_ ∨ P1_2_ k_ ∨ P1_3_ k_) _ A0_2 c0_2 l0_2 HFL.out (zcs.b (g2 := g2) (g3 := g3) (g4 := w3.heap.size) (o2 := .cells #[.int .i64 a0_0,.int .i64 a0_1,.slice A0_2 l0_2.length c0_2] 26 (0,0)) (o3 := .cells #[.int .i64 a1_0,.int .i64 a1_1,.slice A1_2 l1_2.length c1_2,.slice A1_3 l1_3.length c1_3,.int .i64 a1_4,.int .i64 a1_5] 35 (0,0)) (o4 := .cells #[.int .i64 0,.int .i64 0,.slice none 0 0] 26 (0,0)) ?hm) HL.out).mono ?_);(case hm => repeat (first | (with_reducible first | exact M9.out | apply zcs.alloc | apply zcs.drew) | exact M9.out));rintro e w10 ⟨v10,rfl,hO,hb⟩;have M10 : za (zcs w w10 g2 g3 w3.heap.size (.cells #[.int .i64 a0_0,.int .i64 a0_1,.slice A0_2 l0_2.length c0_2] 26 (0,0)) (.cells #[.int .i64 a1_0,.int .i64 a1_1,.slice A1_2 l1_2.length c1_2,.slice A1_3 l1_3.length c1_3,.int .i64 a1_4,.int .i64 a1_5] 35 (0,0)) (.cells #[.int .i64 0,.int .i64 0,.slice none 0 0] 26 (0,0))) := ⟨zcs.step (by repeat (first | (with_reducible first | exact M9.out | apply zcs.alloc | apply zcs.drew) | exact M9.out)) hb⟩;(first | (obtain ⟨bs,hO,HBE,HBL⟩ : ∃ bs,zcD w (fun k_ => P0_2_ k_ ∨ P1_2_ k_ ∨ P1_3_ k_) w10 bs v10 l0_2 ∧ za (bs = w9.heap.size) ∧ za (bs ≤ w10.heap.size) := ⟨_,hO,⟨rfl⟩,⟨hb.size⟩⟩) | (obtain ⟨bs,hO,HBE,HBL⟩ : ∃ bs,zcD w (fun k_ => P0_2_ k_ ∨ P1_2_ k_ ∨ P1_3_ k_) w10 bs v10 l0_2 ∧ za (bs = w9.heap.size + 1) ∧ za (bs ≤ w10.heap.size) := ⟨_,hO,⟨by simp⟩,⟨hb.size⟩⟩));have HBS2 := za.mk (zel hO);have HLT := za.mk (OwnE_lt hO);have HBS : za (∀ k,v10.ownBlock = some k → w9.heap.size ≤ k) := ⟨fun k hk => Nat.le_trans (by have h_ := HBE.out;omega) (HBS2.out k hk)⟩;have HO := za.mk hO;have HB10 := za.mk hb;clear hO hb;have p10_0 := (zb M10.out.c2 0).trans rfl;have pA10_0 := fun o => (zb (zf M10.out.c2 o) 0).trans rfl;have p10_1 := (zb M10.out.c2 1).trans rfl;have pA10_1 := fun o => (zb (zf M10.out.c2 o) 1).trans rfl;have p10_2 := (zb M10.out.c2 2).trans rfl;have pA10_2 := fun o => (zb (zf M10.out.c2 o) 2).trans rfl;have q10_0 := (zb M10.out.c3 0).trans rfl;have qA10_0 := fun o => (zb (zf M10.out.c3 o) 0).trans rfl;have q10_1 := (zb M10.out.c3 1).trans rfl;have qA10_1 := fun o => (zb (zf M10.out.c3 o) 1).trans rfl;have q10_2 := (zb M10.out.c3 2).trans rfl;have qA10_2 := fun o => (zb (zf M10.out.c3 o) 2).trans rfl;have q10_3 := (zb M10.out.c3 3).trans rfl;have qA10_3 := fun o => (zb (zf M10.out.c3 o) 3).trans rfl;have q10_4 := (zb M10.out.c3 4).trans rfl;have qA10_4 := fun o => (zb (zf M10.out.c3 o) 4).trans rfl;have q10_5 := (zb M10.out.c3 5).trans rfl;have qA10_5 := fun o => (zb (zf M10.out.c3 o) 5).trans rfl;have s10_0 := (zb M10.out.c4 0).trans rfl;have sA10_0 := fun o => (zb (zf M10.out.c4 o) 0).trans rfl;have s10_1 := (zb M10.out.c4 1).trans rfl;have sA10_1 := fun o => (zb (zf M10.out.c4 o) 1).trans rfl;have s10_2 := (zb M10.out.c4 2).trans rfl;have sA10_2 := fun o => (zb (zf M10.out.c4 o) 2).trans rfl;have f10_0 := zc M10.out.c4 0;have fA10_0 := fun o => zc (zf M10.out.c4 o) 0;have f10_1 := zc M10.out.c4 1;have fA10_1 := fun o => zc (zf M10.out.c4 o) 1;have f10_2 := zc M10.out.c4 2;have fA10_2 := fun o => zc (zf M10.out.c4 o) 2)
   | (go_at_call 18;(with_reducible refine (zie w (fun k_ => P0_2_ k_ ∨ P1_2_ k_ ∨ P1_3_ k_) _ bs v10 l0_2 _ HI0.out ⟨D,⟨a1_0,a1_1,l1_2,l1_3,⟨a1_4,a1_5⟩⟩⟩ _ [.string D,.int .i64 a1_0,.int .i64 a1_1,.slice A1_2 l1_2.length c1_2,.slice A1_3 l1_3.length c1_3,.int .i64 a1_4,.int .i64 a1_5] ?io ?ih HX.out ?ig ?ib HL.out).mono ?_);(case io => first | exact HO.out | exact zdH HO.out (zl (Below.refl _ _) _));(case ih => first | exact zbg w10 _ | exact zo (zaf (zbg _ _)) HB10.out | exact zo (zbg _ _) HB10.out);(case ig => intro he;first | exact absurd (HLT.out _ he.symm) (Nat.lt_irrefl _) | (have h1_ := HBS2.out _ he.symm;have h2_ := HBE.out;(try simp at h1_);omega));(case ib => first | exact HBL.out | exact Nat.le_trans HBL.out (by simp));rintro e w11 ⟨v11,rfl,hO,hg⟩;obtain ⟨A11,c11,rfl,_,_⟩ := za2.reads hO;generalize (l0_2.take i0 ++ ⟨D,⟨a1_0,a1_1,l1_2,l1_3,⟨a1_4,a1_5⟩⟩⟩ :: l0_2.drop i0).length = n11 at hO ⊢;have M11 : za (zcs w w11 g2 g3 w3.heap.size (.cells #[.int .i64 a0_0,.int .i64 a0_1,.slice A0_2 l0_2.length c0_2] 26 (0,0)) (.cells #[.int .i64 a1_0,.int .i64 a1_1,.slice A1_2 l1_2.length c1_2,.slice A1_3 l1_3.length c1_3,.int .i64 a1_4,.int .i64 a1_5] 35 (0,0)) (.cells #[.int .i64 0,.int .i64 0,.slice none 0 0] 26 (0,0))) := ⟨zcs.grown M9.out (by repeat (first | (with_reducible first | exact M10.out | apply zcs.alloc | apply zcs.drew) | exact M10.out)) hg (fun k hk => HBS.out k hk)⟩;have HO11 := za.mk hO;clear hO hg;clear p10_0 pA10_0 p10_1 pA10_1 p10_2 pA10_2 q10_0 qA10_0 q10_1 qA10_1 q10_2 qA10_2 q10_3 qA10_3 q10_4 qA10_4 q10_5 qA10_5 s10_0 sA10_0 s10_1 sA10_1 s10_2 sA10_2 f10_0 fA10_0 f10_1 fA10_1 f10_2 fA10_2;have p11_0 := (zb M11.out.c2 0).trans rfl;have pA11_0 := fun o => (zb (zf M11.out.c2 o) 0).trans rfl;have p11_1 := (zb M11.out.c2 1).trans rfl;have pA11_1 := fun o => (zb (zf M11.out.c2 o) 1).trans rfl;have p11_2 := (zb M11.out.c2 2).trans rfl;have pA11_2 := fun o => (zb (zf M11.out.c2 o) 2).trans rfl;have q11_0 := (zb M11.out.c3 0).trans rfl;have qA11_0 := fun o => (zb (zf M11.out.c3 o) 0).trans rfl;have q11_1 := (zb M11.out.c3 1).trans rfl;have qA11_1 := fun o => (zb (zf M11.out.c3 o) 1).trans rfl;have q11_2 := (zb M11.out.c3 2).trans rfl;have qA11_2 := fun o => (zb (zf M11.out.c3 o) 2).trans rfl;have q11_3 := (zb M11.out.c3 3).trans rfl;have qA11_3 := fun o => (zb (zf M11.out.c3 o) 3).trans rfl;have q11_4 := (zb M11.out.c3 4).trans rfl;have qA11_4 := fun o => (zb (zf M11.out.c3 o) 4).trans rfl;have q11_5 := (zb M11.out.c3 5).trans rfl;have qA11_5 := fun o => (zb (zf M11.out.c3 o) 5).trans rfl;have s11_0 := (zb M11.out.c4 0).trans rfl;have sA11_0 := fun o => (zb (zf M11.out.c4 o) 0).trans rfl;have s11_1 := (zb M11.out.c4 1).trans rfl;have sA11_1 := fun o => (zb (zf M11.out.c4 o) 1).trans rfl;have s11_2 := (zb M11.out.c4 2).trans rfl;have sA11_2 := fun o => (zb (zf M11.out.c4 o) 2).trans rfl;have f11_0 := zc M11.out.c4 0;have fA11_0 := fun o => zc (zf M11.out.c4 o) 0;have f11_1 := zc M11.out.c4 1;have fA11_1 := fun o => zc (zf M11.out.c4 o) 1;have f11_2 := zc M11.out.c4 2;have fA11_2 := fun o => zc (zf M11.out.c4 o) 2;have fz2 := zc M11.out.c2 2))
  all_goals
   have n24 : g2 ≠ w3.heap.size := fun he => by have := zav M3.out.2.1;omega
   have n42 := Ne.symm n24
   go_wp2_with fail
   have b2 : g2 < bs := by have := zav M3.out.2.1;have := zh M9.out.b;have := HBE.out;have := zav M9.out.c2;omega
   have b9 : w.heap.size ≤ bs := by have h1 := zh M9.out.b;have h2 := HBE.out;omega
   have b4 : w3.heap.size < bs := by have := zav M9.out.c4;have := HBE.out;omega
   refine bodyPost_ret (zbh rfl _ _ w3.heap.size 26 _ (0,0) _ rfl (zX (zX (zX (zbw M11.out.c4 n42 _) 0 _) 1 _) 2 _) Tryz.underlying26 rfl (by kernel_rfl)) rfl ?_
   exact ⟨_,rfl,zhn (zcQ (zcQ (zcQ (zcQ HO11.out (p := ⟨g2,2,none⟩) b2 _) (p := ⟨w3.heap.size,0,none⟩) b4 _) (p := ⟨w3.heap.size,1,none⟩) b4 _) (p := ⟨w3.heap.size,2,none⟩) b4 _) (zm (zm (zm (zm M11.out.b GE2.out) HLE.out) HLE.out) HLE.out) b9,zm (zm (zm (zm M11.out.b GE2.out) HLE.out) HLE.out) HLE.out⟩
theorem getE_eq (o : Option Ent) : ∃ f1 f2 f3 f4 f5 f6 f7,zgl o = (f1,f2,f3,f4,f5,f6,f7,o.isSome) := by
 rcases o with _ | x
 ·exact ⟨_,_,_,_,_,_,_,rfl⟩
 ·exact ⟨_,_,_,_,_,_,_,rfl⟩
theorem zhX {a r : Int} {bs : List S75} {ps : List ByteArray} {x y n : Int} (h : (z6 a r bs ps x y n).2 = 0) : zbo a r bs ps x y n = true := by
 by_cases hm : zbo a r bs ps x y n = true
 ·exact hm
 ·rw [z6,if_neg hm] at h
  exact absurd h (by decide)
theorem zhB {a r : Int} {bs : List S75} {ps : List ByteArray} {x y n : Int} (h : zbo a r bs ps x y n = true) : ps.length ≤ 64 := by
 obtain ⟨h0,_,_,_,_,_,_,_,_,h9⟩ := (zcW ..).1 h
 exact (zbL h0 h9).1
def zar.f (a0_0 : Int) (a0_1 : Int) (l0_2 : List (S39)) (a1_0 : Int) (a1_1 : Int) (l1_2 : List (S75)) (l1_3 : List ByteArray) (a1_4 : Int) (a1_5 : Int) : Option (Int × Int × List (S39) × Int) := if l0_2.length < 1466015503701 then some (a0_0,a0_1,addE a0_0 a0_1 l0_2 a1_0 a1_1 l1_2 l1_3 a1_4 a1_5,zfZ a0_0 a0_1 l0_2 a1_0 a1_1 l1_2 l1_3 a1_4 a1_5) else none
theorem zar.calls (a0_0 : Int) (a0_1 : Int) (P0_2_ : Nat → Prop) (A0_2 : Option Addr) (c0_2 : Nat) (l0_2 : List (S39)) (a1_0 : Int) (a1_1 : Int) (P1_2_ : Nat → Prop) (A1_2 : Option Addr) (c1_2 : Nat) (l1_2 : List (S75)) (P1_3_ : Nat → Prop) (A1_3 : Option Addr) (c1_3 : Nat) (l1_3 : List ByteArray) (a1_4 : Int) (a1_5 : Int) (r1 : Int) (r2 : Int) (r3 : List (S39)) (r4 : Int) (w : World) (hs0_2 : Kd.V k39 39 w w.heap.size (fun k_ => P0_2_ k_) (.slice A0_2 l0_2.length c0_2) l0_2) (hs1_2 : Kd.V k75 75 w w.heap.size (fun k_ => P1_2_ k_) (.slice A1_2 l1_2.length c1_2) l1_2) (hs1_3 : Kd.V Kd.string 9 w w.heap.size (fun k_ => P1_3_ k_) (.slice A1_3 l1_3.length c1_3) l1_3) (h : zar.f a0_0 a0_1 l0_2 a1_0 a1_1 l1_2 l1_3 a1_4 a1_5 = some (r1,r2,r3,r4)) :
  Calls Tryz.prog 5 #[.agg #[.int .i64 a0_0,.int .i64 a0_1,.slice A0_2 l0_2.length c0_2],.agg #[.int .i64 a1_0,.int .i64 a1_1,.slice A1_2 l1_2.length c1_2,.slice A1_3 l1_3.length c1_3,.int .i64 a1_4,.int .i64 a1_5]] w fun e w' => ∃ v2_ : Value,e = .returned (.tuple #[.agg #[.int .i64 r1,.int .i64 r2,v2_],.int .i64 r4]) ∧ Kd.V k39 39 w' w.heap.size (fun k_ => ((P0_2_ k_ ∨ P1_2_ k_ ∨ P1_3_ k_) ∨ w.heap.size ≤ k_)) v2_ r3 ∧ Below w.heap.size w w' := by
 unfold zar.f at h
 split at h
 ·rename_i hl
  simp only [Option.some.injEq,Prod.mk.injEq] at h
  obtain ⟨rfl,rfl,rfl,rfl⟩ := h
  have hD := zdG a1_0 a1_1 l1_2 l1_3 a1_4 a1_5 a0_0
  obtain ⟨f1,f2,f3,f4,f5,f6,f7,hF⟩ := getE_eq (zda l0_2 (z6 a1_0 a1_1 l1_2 l1_3 a1_4 a1_5 a0_0).1)
  obtain ⟨y1,y2,y3,y4,y5,y6,y7,hY⟩ := getE_eq (byE l0_2 a1_0 a1_1)
  have hF' := congrArg some hF
  have hY' := congrArg some hY
  have hM : (z6 a1_0 a1_1 l1_2 l1_3 a1_4 a1_5 a0_0).2 = 0 → zag.f a0_0 a0_1 l0_2 a1_0 a1_1 l1_2 l1_3 a1_4 a1_5 = some (zbr l0_2 a0_1 a1_1 l1_3) := fun h0 => if_pos ⟨hl,by have := zhB (zhX h0);omega⟩
  by_cases hw : zfZ a0_0 a0_1 l0_2 a1_0 a1_1 l1_2 l1_3 a1_4 a1_5 = 0
  ·have hwhy := hw
   unfold zfZ at hw
   by_cases k1 : (z6 a1_0 a1_1 l1_2 l1_3 a1_4 a1_5 a0_0).2 ≠ 0
   ·rw [if_pos k1] at hw;exact absurd hw k1
   rw [if_neg k1] at hw
   have k1' : (z6 a1_0 a1_1 l1_2 l1_3 a1_4 a1_5 a0_0).2 = 0 := Decidable.not_not.1 k1
   by_cases k2 : a1_1 ≤ a0_1
   ·rw [if_pos k2] at hw;exact absurd hw (by decide)
   rw [if_neg k2] at hw
   by_cases k3 : (zda l0_2 (z6 a1_0 a1_1 l1_2 l1_3 a1_4 a1_5 a0_0).1).isSome = true
   ·rw [if_pos k3] at hw;exact absurd hw (by decide)
   rw [if_neg k3] at hw
   by_cases k4 : (byE l0_2 a1_0 a1_1).isSome = true
   ·rw [if_pos k4] at hw;exact absurd hw (by decide)
   rw [if_neg k4] at hw
   by_cases k5 : 0 < (zbr l0_2 a0_1 a1_1 l1_3).length
   ·rw [if_pos k5] at hw;exact absurd hw (by decide)
   have key := putE_idx l0_2 ⟨(z6 a1_0 a1_1 l1_2 l1_3 a1_4 a1_5 a0_0).1,⟨a1_0,a1_1,l1_2,l1_3,⟨a1_4,a1_5⟩⟩⟩
   obtain ⟨i0,hi0,hput,hI⟩ : ∃ i0,i0 ≤ l0_2.length ∧ zea l0_2 ⟨(z6 a1_0 a1_1 l1_2 l1_3 a1_4 a1_5 a0_0).1,⟨a1_0,a1_1,l1_2,l1_3,⟨a1_4,a1_5⟩⟩⟩ = l0_2.take i0 ++ ⟨(z6 a1_0 a1_1 l1_2 l1_3 a1_4 a1_5 a0_0).1,⟨a1_0,a1_1,l1_2,l1_3,⟨a1_4,a1_5⟩⟩⟩ :: l0_2.drop i0 ∧ (zcT (zar.p a1_0 a1_1 A1_2 l1_2.length c1_2 A1_3 l1_3.length c1_3 a1_4 a1_5) l0_2 = -1 ∧ i0 = l0_2.length ∨ zcT (zar.p a1_0 a1_1 A1_2 l1_2.length c1_2 A1_3 l1_3.length c1_3 a1_4 a1_5) l0_2 = i0) := by
    rcases key with ⟨h1,h2⟩ | ⟨i,h1,h2,h3⟩
    ·exact ⟨_,Nat.le_refl _,h2,.inl ⟨h1,rfl⟩⟩
    ·exact ⟨i,by omega,h3,.inr h2⟩
   rw [hwhy,addE,if_pos hwhy,hput]
   refine (zar.yes a0_0 a0_1 P0_2_ A0_2 c0_2 l0_2 a1_0 a1_1 P1_2_ A1_2 c1_2 l1_2 P1_3_ A1_3 c1_3 l1_3 a1_4 a1_5 _ _ _ _ _ _ _ _ _ _ _ _ _ _ _ _ _ _ _ i0 hi0 w hs0_2 hs1_2 hs1_3 hD hF' hY' hl (hM k1') (bne_eq_false_iff_eq.2 k1') (decide_eq_false k2) (Bool.eq_false_iff.2 k3) (Bool.eq_false_iff.2 k4) (decide_eq_false k5) (decide_eq_false (by omega)) hI).mono ?_
   rintro e w' h
   exact h
  ·rw [addE,if_neg hw]
   refine (zar.not a0_0 a0_1 P0_2_ A0_2 c0_2 l0_2 a1_0 a1_1 P1_2_ A1_2 c1_2 l1_2 P1_3_ A1_3 c1_3 l1_3 a1_4 a1_5 _ _ _ _ (zbr l0_2 a0_1 a1_1 l1_3) _ _ _ _ _ _ _ _ _ _ _ _ _ _ (zfZ a0_0 a0_1 l0_2 a1_0 a1_1 l1_2 l1_3 a1_4 a1_5) w hs0_2 hs1_2 hs1_3 hD hF' hY' (fun k1 _ => hM (bne_eq_false_iff_eq.1 k1)) ?_).mono ?_
   ·unfold zfZ at hw ⊢
    by_cases k1 : (z6 a1_0 a1_1 l1_2 l1_3 a1_4 a1_5 a0_0).2 ≠ 0
    ·rw [if_pos k1];exact .inl ⟨bne_iff_ne.2 k1,rfl⟩
    rw [if_neg k1] at hw ⊢
    have k1' := bne_eq_false_iff_eq.2 (Decidable.not_not.1 k1)
    by_cases k2 : a1_1 ≤ a0_1
    ·rw [if_pos k2];exact .inr (.inl ⟨k1',decide_eq_true k2,rfl⟩)
    rw [if_neg k2] at hw ⊢
    by_cases k3 : (zda l0_2 (z6 a1_0 a1_1 l1_2 l1_3 a1_4 a1_5 a0_0).1).isSome = true
    ·rw [if_pos k3];exact .inr (.inr (.inl ⟨k1',decide_eq_false k2,k3,rfl⟩))
    rw [if_neg k3] at hw ⊢
    by_cases k4 : (byE l0_2 a1_0 a1_1).isSome = true
    ·rw [if_pos k4];exact .inr (.inr (.inr (.inl ⟨k1',decide_eq_false k2,Bool.eq_false_iff.2 k3,k4,rfl⟩)))
    rw [if_neg k4] at hw ⊢
    by_cases k5 : 0 < (zbr l0_2 a0_1 a1_1 l1_3).length
    ·rw [if_pos k5];exact .inr (.inr (.inr (.inr ⟨k1',decide_eq_false k2,Bool.eq_false_iff.2 k3,Bool.eq_false_iff.2 k4,decide_eq_true k5,decide_eq_true (by omega),rfl⟩)))
    ·rw [if_neg k5] at hw;exact absurd rfl hw
   ·rintro e w' ⟨rfl,hb⟩
    exact ⟨_,rfl,Kd.V_map (Kd.V_below hs0_2 hb) (fun _ hf => Kd.F_mono hf (fun _ hk => .inl (.inl hk))),hb⟩
 ·cases h
end Go.Proofs.YtndjfdakflaggaaGreat.Px