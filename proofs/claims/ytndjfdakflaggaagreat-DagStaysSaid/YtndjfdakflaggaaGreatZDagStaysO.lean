/- Part 15 of 15 of the proof of the law DagStays: what is proved is the statement at the end of the last part; its conditions are those of the given row. -/
import Derived.Test.YtndjfdakflaggaaGreatRows
import Derived.Deep.Slices
import Derived.ChangeArms
import Derived.SizedLaws
import Derived.WideOpen
import Derived.ProofKit
import Derived.OpenShut
import Derived.ShutString
import Derived.ChangeOld
import Derived.JoinedCond
import Derived.Carry
import Derived.WideShapes
import Derived.Test.YtndjfdakflaggaaGreatZDagStaysN
namespace Go.Proofs.YtndjfdakflaggaaGreat.Px
open Go.RowKit Go.Proofs.YtndjfdakflaggaaGreatW.PrintWords Go.Proofs.YtndjfdakflaggaaGreatW.PrintLast Go.Proofs.YtndjfdakflaggaaGreatW.PrintMore
attribute [local go_sem] zA zC zH zI zv zw zB zD
set_option linter.unusedVariables false
set_option linter.unusedSimpArgs false
structure Rd (α : Type) where
 t : TypeId
 d : Kd α
 ok : α → Prop
 wt : α → Prop
 bk : α → Nat
structure zf8 {α : Type} (P : Program) (r : Rd α) : Prop where
 out : ∀ {H : Type} {enc : TypeId × Value → H} {w : World} {fuel : Nat} {cs : List Value} {x : DataW H × List MemPlace},DataW.trod enc P w 0 (fun _ => true) true fuel r.t cs = some x →
  ∃ a,r.d.K w a cs ∧ r.ok a ∧ ((∀ n ∈ x.1.weights P r.t,n ≤ reachBytes) → r.wt a) ∧ r.bk a ≤ Rows.uptoBulk x.1
def zaR (t : TypeId) (k : IntKind) : Rd Int := ⟨t,Kd.int k,fun a => (Lit.int k a).wf = true,fun _ => True,fun _ => 1⟩
def rdBool (t : TypeId) : Rd Bool := ⟨t,Kd.bool,fun _ => True,fun _ => True,fun _ => 1⟩
def zaE (t : TypeId) : Rd ByteArray := ⟨t,Kd.string,fun a => a.size ≤ maxLen,fun a => a.size ≤ reachBytes,fun a => a.size + 1⟩
def zao {α : Type} (t : TypeId) (B : Nat) (r : Rd α) : Rd (List α) :=
 ⟨t,Kd.slice r.t r.d,fun l => l.length ≤ maxLen ∧ ∀ a ∈ l,r.ok a,fun l => l.length * B ≤ reachBytes ∧ ∀ a ∈ l,r.wt a,fun l => (l.map r.bk).sum + 1⟩
section
variable {P : Program}
theorem zdk {t : TypeId} {k : IntKind} (h : P.underlying t = some (.int k)) : zf8 P (zaR t k) := by
 constructor
 intro H enc w fuel cs x hx
 obtain ⟨n,rfl,rfl,hw⟩ := DataW.trod_int h hx
 exact ⟨n,rfl,hw,fun _ => trivial,by simp [zaR,Rows.uptoBulk]⟩
theorem zgj {t : TypeId} (h : P.underlying t = some .string) : zf8 P (zaE t) := by
 constructor
 intro H enc w fuel cs x hx
 obtain ⟨s,rfl,rfl,hs⟩ := DataW.trod_string h hx
 have e : s.data.toList.length = s.size := by rw [Array.length_toList];rfl
 refine ⟨s,rfl,hs,fun hn => ?_,by simp only [zaE,Rows.uptoBulk,e];exact Nat.le_refl _⟩
 have := hn s.data.toList.length (by simp [DataW.weights])
 rwa [e] at this
theorem zh7 {H α : Type} (f : Nat → DataW H) (g : Nat → α) (bk : α → Nat) (n : Nat) (h : ∀ i,i < n → bk (g i) ≤ Rows.uptoBulk (f i)) : (((List.range n).map g).map bk).sum ≤ Rows.uptoBulkAll ((List.range n).map f) := by
 suffices k : ∀ l : List Nat,(∀ i ∈ l,i < n) → ((l.map g).map bk).sum ≤ Rows.uptoBulkAll (l.map f) from k _ (fun i hi => List.mem_range.1 hi)
 intro l
 induction l with
 | nil => intro _;simp
 | cons i l ih =>
  intro hl
  have h1 := h i (hl i List.mem_cons_self)
  have h2 := ih (fun j hj => hl j (List.mem_cons_of_mem _ hj))
  simp only [List.map_cons,List.sum_cons,Rows.uptoBulkAll]
  omega
theorem zej {H : Type} {e : TypeId} : ∀ {l : List (DataW H)} {d : DataW H} {n : Nat},d ∈ l → n ∈ d.weights P e → n ∈ DataW.weightsAll P e l
 | x :: l,d,n,hd,hn => by
  simp only [DataW.weightsAll,List.mem_append]
  rcases List.mem_cons.1 hd with rfl | hd
  ·exact .inl hn
  ·exact .inr (zej hd hn)
theorem zem {α : Type} [Inhabited α] {r : Rd α} (hr : zf8 P r) {t : TypeId} {B : Nat} (h : P.underlying t = some (.slice r.t)) (hc : P.cellsOf r.t = r.d.sz) (hB : P.bytesOf r.t = B) : zf8 P (zao t B r) := by
 constructor
 intro H enc w fuel cs x hx
 rcases Deep.open_slice h hx with ⟨rfl,rfl⟩ | ⟨a,len,cap,m,n,D,Pl,rfl,_,hl,hm,hmm,rfl,hel⟩
 ·exact ⟨[],⟨none,0,rfl,Nat.le_refl _,Kd.C_nil _ _⟩,⟨Nat.zero_le _,by simp⟩,fun _ => ⟨by simp,by simp⟩,by simp [zao,Rows.uptoBulk]⟩
 ·simp only [if_true] at hmm
  subst hmm
  obtain ⟨f,hf⟩ := Deep.choose_lt (α := α) (n := len) (p := fun i v => ∃ c,w.cells? 0 (a.add (i * P.cellsOf r.t)) (P.cellsOf r.t) = some c ∧ r.d.K w v c ∧ r.ok v ∧ ((∀ q ∈ (D i).weights P r.t,q ≤ reachBytes) → r.wt v) ∧ r.bk v ≤ Rows.uptoBulk (D i)) (fun i hi => by
   obtain ⟨cs',h1,h2⟩ := hel i (by omega)
   obtain ⟨v,k1,k2,k3,k4⟩ := hr.out h2
   exact ⟨v,cs',h1,k1,k2,k3,k4⟩)
  have hlen : ((List.range len).map f).length = len := by simp
  refine ⟨(List.range len).map f,⟨some a,m,by rw [hlen],by rw [hlen];exact hl,?_⟩,⟨by rw [hlen];omega,?_⟩,fun hw => ⟨?_,?_⟩,?_⟩
  ·rw [hlen]
   refine ⟨hlen,by unfold maxLen at hm;omega,fun _ => ⟨a,rfl,fun j p hj => ?_⟩⟩
   have hjl : j < len := by
    have := (List.getElem?_eq_some_iff.1 hj).1
    simpa using this
   obtain ⟨c,c1,c2,_⟩ := hf j hjl
   have hp : f j = p := by simpa [List.getElem?_map,List.getElem?_range hjl] using hj
   obtain ⟨_,l2,l3⟩ := World.cells?_some c1
   refine ⟨c,by rw [l2,hc],hp ▸ c2,fun i u hu => ?_⟩
   have hi : i < P.cellsOf r.t := by rw [← l2];exact (List.getElem?_eq_some_iff.1 hu).1
   rw [← hc,← Deep.add_add,l3 i hi]
   exact hu
  ·intro v hv
   obtain ⟨i,hi,rfl⟩ := List.mem_map.1 hv
   obtain ⟨c,_,_,h3,_⟩ := hf i (List.mem_range.1 hi)
   exact h3
  ·have := hw ((((List.range len).map D).length + ((List.range (m - len)).map fun j => D (len + j)).length) * P.bytesOf r.t) (by show _ ∈ DataW.weights P t _;simp only [DataW.weights,h];exact List.mem_cons_self)
   rw [hlen]
   rw [hB] at this
   simp only [List.length_map,List.length_range] at this
   exact Nat.le_trans (Nat.mul_le_mul_right _ (by omega)) this
  ·intro v hv
   obtain ⟨i,hi,rfl⟩ := List.mem_map.1 hv
   obtain ⟨c,_,_,_,h4,_⟩ := hf i (List.mem_range.1 hi)
   refine h4 (fun q hq => hw q ?_)
   show _ ∈ DataW.weights P t _
   simp only [DataW.weights,h]
   exact List.mem_cons_of_mem _ (List.mem_append_left _ (zej (List.mem_map.2 ⟨i,hi,rfl⟩) hq))
  ·simp only [zao,Rows.uptoBulk]
   have := zh7 D f r.bk len (fun i hi => (hf i hi).choose_spec.2.2.2.2)
   omega
structure zek {β : Type} (P : Program) (fs : List Field) (o : Nat) (d : Kd β) (ok wt : β → Prop) (bk : β → Nat) : Prop where
 out : ∀ {H : Type} {enc : TypeId × Value → H} {w : World} {n : Nat} {cs : List Value} {xs : List (DataW H × List MemPlace)},xs.length = fs.length → cs.length = o + d.sz →
  (∀ (i : Nat) (f : Field),fs[i]? = some f → DataW.trod enc P w 0 (fun _ => true) true n f.type ((cs.drop f.offset).take (P.cellsOf f.type)) = xs[i]?) →
  ∃ b,d.K w b (cs.drop o) ∧ ok b ∧ ((∀ q ∈ DataW.weightsEach P (fs.map (·.type)) (xs.map (·.1)),q ≤ reachBytes) → wt b) ∧ bk b ≤ Rows.uptoBulkAll (xs.map (·.1))
theorem zeM {α : Type} {r : Rd α} (hr : zf8 P r) {f : Field} (ht : f.type = r.t) {o : Nat} (ho : f.offset = o) (hc : P.cellsOf r.t = r.d.sz) : zek P [f] o r.d r.ok r.wt r.bk := by
 constructor
 intro H enc w n cs xs hl hcs hx
 match xs,hl with
 | [x],_ =>
  have h := hx 0 f rfl
  rw [ho,ht,hc,List.take_of_length_le (by rw [List.length_drop];omega)] at h
  obtain ⟨a,h1,h2,h3,h4⟩ := hr.out h
  refine ⟨a,h1,h2,fun hq => h3 (fun q hm => hq q ?_),by simp [Rows.uptoBulkAll];omega⟩
  simp only [List.map_cons,List.map_nil,DataW.weightsEach,List.mem_append,ht]
  exact .inl hm
theorem zb2 {α β : Type} {r : Rd α} (hr : zf8 P r) {f : Field} (ht : f.type = r.t) {fs : List Field} {o o' : Nat} (ho : f.offset = o) (hc : P.cellsOf r.t = r.d.sz) (ho' : o' = o + r.d.sz) {d : Kd β} {ok wt : β → Prop} {bk : β → Nat} (hfs : zek P fs o' d ok wt bk) :
  zek P (f :: fs) o (Kd.pair r.d d) (fun x => r.ok x.1 ∧ ok x.2) (fun x => r.wt x.1 ∧ wt x.2) (fun x => r.bk x.1 + bk x.2) := by
 constructor
 intro H enc w n cs xs hl hcs hx
 match xs,hl with
 | x :: xs,hl =>
  have h := hx 0 f rfl
  have hcs' : cs.length = o + (r.d.sz + d.sz) := hcs
  rw [ho,ht,hc] at h
  obtain ⟨a,h1,h2,h3,h4⟩ := hr.out h
  obtain ⟨b,k1,k2,k3,k4⟩ := hfs.out (enc := enc) (w := w) (n := n) (cs := cs) (xs := xs) (by simpa using hl) (by omega) (fun i g hg => hx (i + 1) g hg)
  refine ⟨(a,b),⟨(cs.drop o).take r.d.sz,cs.drop o',?_,h1,k1⟩,⟨h2,k2⟩,fun hq => ⟨h3 (fun q hm => hq q ?_),k3 (fun q hm => hq q ?_)⟩,?_⟩
  ·rw [ho',← List.drop_drop,List.take_append_drop]
  ·simp only [List.map_cons,DataW.weightsEach,List.mem_append,ht]
   exact .inl hm
  ·simp only [List.map_cons,DataW.weightsEach,List.mem_append]
   exact .inr hm
  ·simp only [List.map_cons,Rows.uptoBulkAll];omega
def ze5 {α β : Type} (t : TypeId) (d : Kd β) (f : α → β) (ok wt : β → Prop) (bk : β → Nat) : Rd α := ⟨t,Kd.iso d f,fun a => ok (f a),fun a => wt (f a),fun a => bk (f a) + 1⟩
theorem zeN {α β : Type} {t : TypeId} {fs : List Field} {d : Kd β} {ok wt : β → Prop} {bk : β → Nat} (hfs : zek P fs 0 d ok wt bk) (h : P.underlying t = some (.struct fs.toArray)) (hc : P.cellsOf t = d.sz) (f : α → β) (g : β → α) (hfg : ∀ b,f (g b) = b) : zf8 P (ze5 t d f ok wt bk) := by
 constructor
 intro H enc w fuel cs x hx
 obtain ⟨xs,n,rfl,rfl,hl,hn,hf⟩ := DataW.trod_struct h hx
 obtain ⟨b,k1,k2,k3,k4⟩ := hfs.out (enc := enc) (w := w) (n := n) (cs := cs) (xs := xs) (by simpa using hn) (by omega) (fun i g hg => hf i g (by simpa using hg))
 refine ⟨g b,?_,?_,fun hq => ?_,?_⟩
 ·show d.K w (f (g b)) cs
  rw [hfg]
  exact k1
 ·show ok (f (g b))
  rw [hfg]
  exact k2
 ·show wt (f (g b))
  rw [hfg]
  refine k3 (fun q hm => hq q ?_)
  show _ ∈ DataW.weights P t _
  simp only [DataW.weights,h]
  exact hm
 ·show bk (f (g b)) + 1 ≤ _
  rw [hfg]
  simp only [Rows.uptoBulk]
  omega
end
theorem zhw {α H : Type} {P : Program} {r : Rd α} (hr : zf8 P r) {enc : TypeId × Value → H} {w : World} {v : Value} {d : DataW H} {ps : List MemPlace} (h : DataW.Trod enc P w 0 (fun _ => true) true r.t v d ps) :
  ∃ a,r.d.K w a v.cells.toList ∧ r.ok a ∧ ((∀ n ∈ d.weights P r.t,n ≤ reachBytes) → r.wt a) ∧ r.bk a ≤ Rows.uptoBulk d := by
 obtain ⟨fuel,hf⟩ := h
 exact hr.out hf
end Go.Proofs.YtndjfdakflaggaaGreat.Px
namespace Go.Proofs.YtndjfdakflaggaaGreat.Px
open Go.RowKit Go.Proofs.YtndjfdakflaggaaGreat.Px Go.Proofs.YtndjfdakflaggaaGreatW.PrintWords Go.Proofs.YtndjfdakflaggaaGreatW.PrintLast Go.Proofs.YtndjfdakflaggaaGreatW.PrintMore
set_option linter.unusedVariables false
instance : Inhabited S75 := ⟨z75⟩
def zgz : Rd S75 := ze5 75 (Kd.pair (zaR 3 .i64).d (Kd.pair (zaR 3 .i64).d (zao 31 16 (zaE 9)).d)) (fun x : S75 => (x.f0,x.f1,x.f2)) (fun y => (zaR 3 .i64).ok y.1 ∧ ((zaR 3 .i64).ok y.2.1 ∧ ((zao 31 16 (zaE 9)).ok y.2.2))) (fun y => (zaR 3 .i64).wt y.1 ∧ ((zaR 3 .i64).wt y.2.1 ∧ ((zao 31 16 (zaE 9)).wt y.2.2))) (fun y => (zaR 3 .i64).bk y.1 + ((zaR 3 .i64).bk y.2.1 + ((zao 31 16 (zaE 9)).bk y.2.2)))
theorem fit75 : zf8 Tryz.prog zgz :=
 zeN (zb2 (o := 0) (o' := 1) (ok := fun (y : Int × (List ByteArray)) => (zaR 3 .i64).ok y.1 ∧ ((zao 31 16 (zaE 9)).ok y.2)) (wt := fun (y : Int × (List ByteArray)) => (zaR 3 .i64).wt y.1 ∧ ((zao 31 16 (zaE 9)).wt y.2)) (bk := fun (y : Int × (List ByteArray)) => (zaR 3 .i64).bk y.1 + ((zao 31 16 (zaE 9)).bk y.2)) (zdk Tryz.underlying3) rfl rfl (by kernel_rfl) rfl (zb2 (o := 1) (o' := 2) (ok := fun (y : (List ByteArray)) => (zao 31 16 (zaE 9)).ok y) (wt := fun (y : (List ByteArray)) => (zao 31 16 (zaE 9)).wt y) (bk := fun (y : (List ByteArray)) => (zao 31 16 (zaE 9)).bk y) (zdk Tryz.underlying3) rfl rfl (by kernel_rfl) rfl (zeM (zem (zgj Tryz.underlying9) Tryz.underlying31 (by kernel_rfl) (by kernel_rfl)) rfl rfl (by kernel_rfl)))) Tryz.underlying75 (by kernel_rfl) (fun x : S75 => (x.f0,x.f1,x.f2)) (fun y => ⟨y.1,y.2.1,y.2.2⟩) (fun _ => rfl)
instance : Inhabited S33 := ⟨z33⟩
def zec : Rd S33 := ze5 33 (Kd.pair (zaR 3 .i64).d (zaR 3 .i64).d) (fun x : S33 => (x.f0,x.f1)) (fun y => (zaR 3 .i64).ok y.1 ∧ ((zaR 3 .i64).ok y.2)) (fun y => (zaR 3 .i64).wt y.1 ∧ ((zaR 3 .i64).wt y.2)) (fun y => (zaR 3 .i64).bk y.1 + ((zaR 3 .i64).bk y.2))
theorem fit33 : zf8 Tryz.prog zec :=
 zeN (zb2 (o := 0) (o' := 1) (ok := fun (y : Int) => (zaR 3 .i64).ok y) (wt := fun (y : Int) => (zaR 3 .i64).wt y) (bk := fun (y : Int) => (zaR 3 .i64).bk y) (zdk Tryz.underlying3) rfl rfl (by kernel_rfl) rfl (zeM (zdk Tryz.underlying3) rfl rfl (by kernel_rfl))) Tryz.underlying33 (by kernel_rfl) (fun x : S33 => (x.f0,x.f1)) (fun y => ⟨y.1,y.2⟩) (fun _ => rfl)
instance : Inhabited S35 := ⟨z35⟩
def rd35 : Rd S35 := ze5 35 (Kd.pair (zaR 3 .i64).d (Kd.pair (zaR 3 .i64).d (Kd.pair (zao 30 40 zgz).d (Kd.pair (zao 31 16 (zaE 9)).d zec.d)))) (fun x : S35 => (x.f0,x.f1,x.f2,x.f3,x.f4)) (fun y => (zaR 3 .i64).ok y.1 ∧ ((zaR 3 .i64).ok y.2.1 ∧ ((zao 30 40 zgz).ok y.2.2.1 ∧ ((zao 31 16 (zaE 9)).ok y.2.2.2.1 ∧ (zec.ok y.2.2.2.2))))) (fun y => (zaR 3 .i64).wt y.1 ∧ ((zaR 3 .i64).wt y.2.1 ∧ ((zao 30 40 zgz).wt y.2.2.1 ∧ ((zao 31 16 (zaE 9)).wt y.2.2.2.1 ∧ (zec.wt y.2.2.2.2))))) (fun y => (zaR 3 .i64).bk y.1 + ((zaR 3 .i64).bk y.2.1 + ((zao 30 40 zgz).bk y.2.2.1 + ((zao 31 16 (zaE 9)).bk y.2.2.2.1 + (zec.bk y.2.2.2.2)))))
theorem fit35 : zf8 Tryz.prog rd35 :=
 zeN (zb2 (o := 0) (o' := 1) (ok := fun (y : Int × (List S75) × (List ByteArray) × S33) => (zaR 3 .i64).ok y.1 ∧ ((zao 30 40 zgz).ok y.2.1 ∧ ((zao 31 16 (zaE 9)).ok y.2.2.1 ∧ (zec.ok y.2.2.2)))) (wt := fun (y : Int × (List S75) × (List ByteArray) × S33) => (zaR 3 .i64).wt y.1 ∧ ((zao 30 40 zgz).wt y.2.1 ∧ ((zao 31 16 (zaE 9)).wt y.2.2.1 ∧ (zec.wt y.2.2.2)))) (bk := fun (y : Int × (List S75) × (List ByteArray) × S33) => (zaR 3 .i64).bk y.1 + ((zao 30 40 zgz).bk y.2.1 + ((zao 31 16 (zaE 9)).bk y.2.2.1 + (zec.bk y.2.2.2)))) (zdk Tryz.underlying3) rfl rfl (by kernel_rfl) rfl (zb2 (o := 1) (o' := 2) (ok := fun (y : (List S75) × (List ByteArray) × S33) => (zao 30 40 zgz).ok y.1 ∧ ((zao 31 16 (zaE 9)).ok y.2.1 ∧ (zec.ok y.2.2))) (wt := fun (y : (List S75) × (List ByteArray) × S33) => (zao 30 40 zgz).wt y.1 ∧ ((zao 31 16 (zaE 9)).wt y.2.1 ∧ (zec.wt y.2.2))) (bk := fun (y : (List S75) × (List ByteArray) × S33) => (zao 30 40 zgz).bk y.1 + ((zao 31 16 (zaE 9)).bk y.2.1 + (zec.bk y.2.2))) (zdk Tryz.underlying3) rfl rfl (by kernel_rfl) rfl (zb2 (o := 2) (o' := 3) (ok := fun (y : (List ByteArray) × S33) => (zao 31 16 (zaE 9)).ok y.1 ∧ (zec.ok y.2)) (wt := fun (y : (List ByteArray) × S33) => (zao 31 16 (zaE 9)).wt y.1 ∧ (zec.wt y.2)) (bk := fun (y : (List ByteArray) × S33) => (zao 31 16 (zaE 9)).bk y.1 + (zec.bk y.2)) (zem fit75 Tryz.underlying30 (by kernel_rfl) (by kernel_rfl)) rfl rfl (by kernel_rfl) rfl (zb2 (o := 3) (o' := 4) (ok := fun (y : S33) => zec.ok y) (wt := fun (y : S33) => zec.wt y) (bk := fun (y : S33) => zec.bk y) (zem (zgj Tryz.underlying9) Tryz.underlying31 (by kernel_rfl) (by kernel_rfl)) rfl rfl (by kernel_rfl) rfl (zeM fit33 rfl rfl (by kernel_rfl)))))) Tryz.underlying35 (by kernel_rfl) (fun x : S35 => (x.f0,x.f1,x.f2,x.f3,x.f4)) (fun y => ⟨y.1,y.2.1,y.2.2.1,y.2.2.2.1,y.2.2.2.2⟩) (fun _ => rfl)
def zc0 : Prop := ∀ (a0 : Int) (a1 : List S35) (a2 : Int),(zaR 3 .i64).ok a0 → (zao 22 80 rd35).ok a1 → (zaR 3 .i64).ok a2 → (zaR 3 .i64).wt a0 → (zao 22 80 rd35).wt a1 → (zaR 3 .i64).wt a2 → ∃ k,zg.f k a0 a1 a2 = some true
end Go.Proofs.YtndjfdakflaggaaGreat.Px
namespace Go.Proofs.YtndjfdakflaggaaGreat.Px
open Go.RowKit Go.Proofs.YtndjfdakflaggaaGreatW.PrintWords Go.Proofs.YtndjfdakflaggaaGreatW.PrintLast Go.Proofs.YtndjfdakflaggaaGreatW.PrintMore
attribute [local go_sem] zA zC zH zI zv zw zB zD
set_option linter.unusedVariables false
set_option linter.unusedSimpArgs false
def ahd (x y : Ent) : Prop := zbd x.f1.f0 x.f1.f1 y.f1.f0 y.f1.f1 = true
theorem zc3 {x y : Ent} : ahd x y ↔ x.f1.f1 < y.f1.f1 ∨ x.f1.f1 = y.f1.f1 ∧ x.f1.f0 < y.f1.f0 := decide_eq_true_iff
def zfX (L : List Ent) : Prop := L.Pairwise ahd
theorem zbA {x y : Ent} : ∀ {L : List Ent},y ∈ zea L x ↔ y = x ∨ y ∈ L
 | [] => by simp [zea]
 | z :: L => by
  rw [zea]
  split
  ·simp
  ·rw [List.mem_cons,zbA,List.mem_cons]
   constructor
   ·rintro (h | h | h)
    ·exact .inr (.inl h)
    ·exact .inl h
    ·exact .inr (.inr h)
   ·rintro (h | h | h)
    ·exact .inr (.inl h)
    ·exact .inl h
    ·exact .inr (.inr h)
theorem zeb {x : Ent} : ∀ {L : List Ent},(zea L x).length = L.length + 1
 | [] => rfl
 | z :: L => by
  rw [zea]
  split
  ·rfl
  ·rw [List.length_cons,zeb,List.length_cons]
theorem ze4 {x : Ent} : ∀ {L : List Ent},zfX L → (∀ y ∈ L,¬ (y.f1.f0 = x.f1.f0 ∧ y.f1.f1 = x.f1.f1)) → zfX (zea L x)
 | [],_,_ => List.pairwise_singleton _ _
 | z :: L,h,hn => by
  rw [zea]
  have hz := hn z (List.mem_cons_self ..)
  rw [zfX,List.pairwise_cons] at h
  split
  ·next hx =>
   have hx' := (zc3 (x := x) (y := z)).1 hx
   rw [zfX,List.pairwise_cons]
   refine ⟨fun y hy => ?_,List.pairwise_cons.2 h⟩
   rcases List.mem_cons.1 hy with rfl | hy
   ·exact hx
   ·have := (zc3).1 (h.1 y hy)
    exact zc3.2 (by omega)
  ·next hx =>
   have hx' : ¬ (x.f1.f1 < z.f1.f1 ∨ x.f1.f1 = z.f1.f1 ∧ x.f1.f0 < z.f1.f0) := fun hc => hx ((zc3 (x := x) (y := z)).2 hc)
   rw [zfX,List.pairwise_cons]
   refine ⟨fun y hy => ?_,ze4 h.2 fun y hy => hn y (List.mem_cons_of_mem _ hy)⟩
   rcases zbA.1 hy with rfl | hy
   ·exact zc3.2 (by omega)
   ·exact h.1 y hy
theorem srtE_eq : ∀ {L M : List Ent},zfX L → zfX M → (∀ x,x ∈ L ↔ x ∈ M) → L = M
 | [],[],_,_,_ => rfl
 | [],y :: M,_,_,h => absurd ((h y).2 (List.mem_cons_self ..)) List.not_mem_nil
 | x :: L,[],_,_,h => absurd ((h x).1 (List.mem_cons_self ..)) List.not_mem_nil
 | x :: L,y :: M,h1,h2,h => by
  rw [zfX,List.pairwise_cons] at h1 h2
  have irr : ∀ z : Ent,¬ ahd z z := fun z hz => by have := zc3.1 hz;omega
  have asym : ∀ a b : Ent,ahd a b → ¬ ahd b a := fun a b p q => by have := zc3.1 p;have := zc3.1 q;omega
  have hxy : x = y := by
   rcases List.mem_cons.1 ((h x).1 (List.mem_cons_self ..)) with e | e
   ·exact e
   ·rcases List.mem_cons.1 ((h y).2 (List.mem_cons_self ..)) with e2 | e2
    ·exact e2.symm
    ·exact absurd (h1.1 y e2) (asym _ _ (h2.1 x e))
  subst hxy
  rw [srtE_eq h1.2 h2.2 fun z => ⟨fun hz => ?_,fun hz => ?_⟩]
  ·rcases List.mem_cons.1 ((h z).1 (List.mem_cons_of_mem _ hz)) with e | e
   ·subst e;exact absurd (h1.1 z hz) (irr z)
   ·exact e
  ·rcases List.mem_cons.1 ((h z).2 (List.mem_cons_of_mem _ hz)) with e | e
   ·subst e;exact absurd (h2.1 z hz) (irr z)
   ·exact e
def zex (n : Int) (v : Vtx) : Ent := ⟨(z6 v.f0 v.f1 v.f2 v.f3 v.f4.f0 v.f4.f1 n).1,v⟩
def zh0 (n low : Int) (L : List Ent) (v : Vtx) : Int := zfZ n low L v.f0 v.f1 v.f2 v.f3 v.f4.f0 v.f4.f1
def ziO (n low : Int) (L : List Ent) (v : Vtx) : List Ent := addE n low L v.f0 v.f1 v.f2 v.f3 v.f4.f0 v.f4.f1
theorem zc8 {n low : Int} {L : List Ent} {v : Vtx} : zh0 n low L v = 0 ↔ (z6 v.f0 v.f1 v.f2 v.f3 v.f4.f0 v.f4.f1 n).2 = 0 ∧ low < v.f1 ∧ (∀ x ∈ L,x.f0 ≠ (zex n v).f0) ∧ (∀ x ∈ L,¬ (x.f1.f0 = v.f0 ∧ x.f1.f1 = v.f1)) ∧ (zbr L low v.f1 v.f3).length = 0 := by
 unfold zh0 zfZ
 by_cases h1 : (z6 v.f0 v.f1 v.f2 v.f3 v.f4.f0 v.f4.f1 n).2 = 0
 ·rw [if_neg (by simp [h1])]
  by_cases h2 : v.f1 ≤ low
  ·rw [if_pos h2];exact ⟨fun h => absurd h (by decide),fun h => absurd h.2.1 (by omega)⟩
  rw [if_neg h2]
  by_cases h3 : (zda L (z6 v.f0 v.f1 v.f2 v.f3 v.f4.f0 v.f4.f1 n).1).isSome = true
  ·rw [if_pos h3]
   refine ⟨fun h => absurd h (by decide),fun h => ?_⟩
   rw [zda,List.find?_isSome] at h3
   obtain ⟨x,hx,h3⟩ := h3
   exact absurd (of_decide_eq_true h3) (h.2.2.1 x hx)
  rw [if_neg h3]
  by_cases h4 : (byE L v.f0 v.f1).isSome = true
  ·rw [if_pos h4]
   refine ⟨fun h => absurd h (by decide),fun h => ?_⟩
   rw [byE,List.find?_isSome] at h4
   obtain ⟨x,hx,h4⟩ := h4
   exact absurd (of_decide_eq_true h4) (h.2.2.2.1 x hx)
  rw [if_neg h4]
  by_cases h5 : 0 < (zbr L low v.f1 v.f3).length
  ·rw [if_pos h5];exact ⟨fun h => absurd h (by decide),fun h => absurd h.2.2.2.2 (by omega)⟩
  rw [if_neg h5]
  refine ⟨fun _ => ⟨h1,by omega,fun x hx he => h3 ?_,fun x hx he => h4 ?_,by omega⟩,fun _ => rfl⟩
  ·rw [zda,List.find?_isSome];exact ⟨x,hx,decide_eq_true he⟩
  ·rw [byE,List.find?_isSome];exact ⟨x,hx,decide_eq_true he⟩
 ·rw [if_pos (by simp [h1])]
  exact ⟨fun h => absurd h h1,fun h => absurd h.1 h1⟩
theorem zeU {n low : Int} {L : List Ent} {v : Vtx} (h : zh0 n low L v = 0) : ziO n low L v = zea L (zex n v) := if_pos h
theorem addV_no {n low : Int} {L : List Ent} {v : Vtx} (h : zh0 n low L v ≠ 0) : ziO n low L v = L := if_neg h
theorem zfj {L M : List Ent} {low r : Int} {ps : List ByteArray} (h : (zbr L low r ps).length = 0) (hs : ∀ x ∈ L,x ∈ M) : (zbr M low r ps).length = 0 := by
 unfold zbr at h ⊢
 split
 ·rfl
 ·next hl =>
  rw [if_neg hl,List.length_eq_zero_iff,List.filter_eq_nil_iff] at h
  rw [List.length_eq_zero_iff,List.filter_eq_nil_iff]
  intro p hp
  have := h p hp
  simp only [Bool.not_eq_true',Bool.not_eq_false,List.any_eq_true] at this ⊢
  obtain ⟨x,hx,h2⟩ := this
  exact ⟨x,hs x hx,h2⟩
structure zdq (n : Int) (l : List Vtx) (A : Nat → List Ent) : Prop where
 zero : A 0 = []
 why : ∀ i (h : i < l.length),zh0 n 0 (A i) l[i] = 0
 next : ∀ i (h : i < l.length),A (i + 1) = ziO n 0 (A i) l[i]
theorem zdq.mem {n : Int} {l : List Vtx} {A : Nat → List Ent} (h : zdq n l A) : ∀ i,i ≤ l.length → ∀ x,x ∈ A i ↔ ∃ (j : Nat) (hj : j < l.length),j < i ∧ x = zex n l[j]
 | 0,_,x => by
  rw [h.zero]
  exact ⟨fun hx => absurd hx List.not_mem_nil,fun ⟨_,_,hj,_⟩ => absurd hj (Nat.not_lt_zero _)⟩
 | i + 1,hi,x => by
  rw [h.next i hi,zeU (h.why i hi),zbA,h.mem i (by omega) x]
  constructor
  ·rintro (rfl | ⟨j,hj,h1,h2⟩)
   ·exact ⟨i,hi,by omega,rfl⟩
   ·exact ⟨j,hj,by omega,h2⟩
  ·rintro ⟨j,hj,h1,h2⟩
   rcases Nat.lt_succ_iff_lt_or_eq.1 h1 with h1 | h1
   ·exact .inr ⟨j,hj,h1,h2⟩
   ·subst h1;exact .inl h2
theorem zdq.srt {n : Int} {l : List Vtx} {A : Nat → List Ent} (h : zdq n l A) : ∀ i,i ≤ l.length → zfX (A i)
 | 0,_ => by rw [h.zero];exact List.Pairwise.nil
 | i + 1,hi => by
  rw [h.next i hi,zeU (h.why i hi)]
  exact ze4 (h.srt i (by omega)) (zc8.1 (h.why i hi)).2.2.2.1
theorem zdq.apart {n : Int} {l : List Vtx} {A : Nat → List Ent} (h : zdq n l A) (i j : Nat) (hi : i < l.length) (hj : j < i) : (zex n l[j]).f0 ≠ (zex n l[i]).f0 ∧ ¬ (l[j].f0 = l[i].f0 ∧ l[j].f1 = l[i].f1) := by
 obtain ⟨_,_,h3,h4,_⟩ := zc8.1 (h.why i hi)
 have hm := (h.mem i (by omega) (zex n l[j])).2 ⟨j,by omega,hj,rfl⟩
 exact ⟨h3 _ hm,h4 _ hm⟩
theorem zdq.one {n : Int} {l : List Vtx} {A : Nat → List Ent} (h : zdq n l A) (i j : Nat) (hi : i < l.length) (hj : j < l.length) (he : (zex n l[j]).f0 = (zex n l[i]).f0 ∨ (l[j].f0 = l[i].f0 ∧ l[j].f1 = l[i].f1)) : i = j := by
 rcases Nat.lt_trichotomy i j with hl | hl | hl
 ·have := h.apart j i hj hl
  rcases he with he | he
  ·exact absurd he.symm this.1
  ·exact absurd ⟨he.1.symm,he.2.symm⟩ this.2
 ·exact hl
 ·have := h.apart i j hi hl
  rcases he with he | he
  ·exact absurd he this.1
  ·exact absurd he this.2
structure zh6 (n : Int) (l : List Vtx) (B : List Ent) : Prop where
 srt : zfX B
 mem : ∀ x ∈ B,∃ (j : Nat) (hj : j < l.length),x = zex n l[j]
theorem zh6.step {n : Int} {l : List Vtx} {A : Nat → List Ent} {B : List Ent} (h : zdq n l A) (hB : zh6 n l B) (i : Nat) (hi : i < l.length) : zh6 n l (ziO n 0 B l[i]) ∧ (∀ x ∈ B,x ∈ ziO n 0 B l[i]) ∧ ((∀ (j : Nat) (hj : j < l.length),j < i → zex n l[j] ∈ B) → zex n l[i] ∈ ziO n 0 B l[i]) := by
 by_cases hw : zh0 n 0 B l[i] = 0
 ·rw [zeU hw]
  refine ⟨⟨ze4 hB.srt (zc8.1 hw).2.2.2.1,fun x hx => ?_⟩,fun x hx => zbA.2 (.inr hx),fun _ => zbA.2 (.inl rfl)⟩
  rcases zbA.1 hx with rfl | hx
  ·exact ⟨i,hi,rfl⟩
  ·exact hB.mem x hx
 ·rw [addV_no hw]
  refine ⟨hB,fun x hx => hx,fun hj => ?_⟩
  by_cases hin : zex n l[i] ∈ B
  ·exact hin
  ·exfalso
   refine hw (zc8.2 ?_)
   obtain ⟨h1,h2,_,_,h5⟩ := zc8.1 (h.why i hi)
   refine ⟨h1,h2,fun x hx he => ?_,fun x hx he => ?_,zfj h5 fun x hx => ?_⟩
   ·obtain ⟨j,hj',rfl⟩ := hB.mem x hx
    have := h.one i j hi hj' (.inl he)
    subst this
    exact hin hx
   ·obtain ⟨j,hj',rfl⟩ := hB.mem x hx
    have := h.one i j hi hj' (.inr he)
    subst this
    exact hin hx
   ·obtain ⟨j,hj',hji,rfl⟩ := (h.mem i (by omega) x).1 hx
    exact hj j hj' hji
theorem zh6.all {n : Int} {l : List Vtx} {A : Nat → List Ent} {B : List Ent} (h : zdq n l A) (hB : zh6 n l B) (hm : ∀ (j : Nat) (hj : j < l.length),zex n l[j] ∈ B) : A l.length = B :=
 srtE_eq (h.srt _ (Nat.le_refl _)) hB.srt fun x => ⟨fun hx => by obtain ⟨j,hj,_,rfl⟩ := (h.mem _ (Nat.le_refl _) x).1 hx;exact hm j hj,fun hx => by obtain ⟨j,hj,rfl⟩ := hB.mem x hx;exact (h.mem _ (Nat.le_refl _) _).2 ⟨j,hj,hj,rfl⟩⟩
theorem okE_iff {n low : Int} {L : List Ent} {i : Nat} {x : Ent} : okE n low L i x = true ↔ (z6 x.f1.f0 x.f1.f1 x.f1.f2 x.f1.f3 x.f1.f4.f0 x.f1.f4.f1 n).2 = 0 ∧ (z6 x.f1.f0 x.f1.f1 x.f1.f2 x.f1.f3 x.f1.f4.f0 x.f1.f4.f1 n).1 = x.f0 ∧ low < x.f1.f1 ∧ (zbr L low x.f1.f1 x.f1.f3).length = 0 ∧ (i = 0 ∨ zbd (L.getD (i - 1) z39).f1.f0 (L.getD (i - 1) z39).f1.f1 x.f1.f0 x.f1.f1 = true) := by
 unfold okE
 simp only [Bool.and_eq_true,Bool.or_eq_true,decide_eq_true_eq,and_assoc]
def zdP (L : List Ent) (r : Int) : List Ent := L.filter fun x => decide (x.f1.f1 = r)
theorem zc6 (l : List Ent) (j : Nat) (h : j < l.length) : zd l (j : Int) = l[j] := by
 rw [zd,Int.toNat_natCast,List.getD_eq_getElem?_getD,List.getElem?_eq_getElem h];rfl
structure zhl (x : Ent) : Prop where
 bs : x.f1.f2.length < 4611686018427387904
 tx : ∀ b ∈ x.f1.f2,b.f2.length < 4611686018427387904
 ps : x.f1.f3.length ≤ 8796093022208
 t : ∀ t ∈ x.f1.f3,t.size < 4611686018427387904
instance decEnt : DecidableEq Ent := fun a b => decidable_of_iff (a.f0 = b.f0 ∧ zdh a.f1.f0 a.f1.f1 a.f1.f2 a.f1.f3 a.f1.f4.f0 a.f1.f4.f1 b.f1.f0 b.f1.f1 b.f1.f2 b.f1.f3 b.f1.f4.f0 b.f1.f4.f1 = true) ⟨fun ⟨h0,h1⟩ => by
  rw [zdS] at h1
  obtain ⟨a0,⟨a1,a2,a3,a4,⟨a5,a6⟩⟩⟩ := a;obtain ⟨b0,⟨b1,b2,b3,b4,⟨b5,b6⟩⟩⟩ := b
  simp only at h0 h1
  obtain ⟨rfl,rfl,rfl,rfl,rfl,rfl⟩ := h1
  rw [h0],fun h => by rw [h,zdS];exact ⟨rfl,rfl,rfl,rfl,rfl,rfl,rfl⟩⟩
theorem zgW (n lo r : Int) (L : List Ent) (hL : L.length < 1466015503701) (d : Nat) : ∀ (j : Nat) (acc : List Ent),j + d = L.length → acc.length ≤ j →
  Ev (fun k => zR.l0 k r acc (j : Int) n lo L) (acc ++ zdP (L.drop j) r) := by
 induction d with
 | zero =>
  intro j acc hj _
  refine Ev.step (fun k => by rw [zR.l0]) ?_
  refine zS (by omega) (zad (Ev.now _) ?_)
  rw [List.drop_eq_nil_of_le (by omega)];simp [zdP]
 | succ d ih =>
  intro j acc hj ha
  refine Ev.step (fun k => by rw [zR.l0]) ?_
  have h1 : j < L.length := by omega
  refine zE (by omega) (zE (by omega) ?_)
  rw [zc6 L j h1,z4 (by omega) (by omega),List.drop_eq_getElem_cons h1]
  by_cases h : L[j].f1.f1 = r
  ·refine zE h (zE (by omega) (zad (ih (j + 1) _ (by omega) (by simp;omega)) ?_))
   rw [zdP,zdP,show (L[j] :: L.drop (j + 1)).filter (fun x => decide (x.f1.f1 = r)) = L[j] :: (L.drop (j + 1)).filter (fun x => decide (x.f1.f1 = r)) from List.filter_cons_of_pos (by simpa using h),List.append_assoc];rfl
  ·refine zS h (zad (ih (j + 1) _ (by omega) (by omega)) ?_)
   rw [zdP,zdP,List.filter_cons_of_neg (by simpa using h)]
theorem ziz (n lo r : Int) (L : List Ent) (hL : L.length < 1466015503701) : Ev (fun k => zR.f k n lo L r) (zdP L r) :=
 zad (zgW n lo r L hL L.length 0 [] (by omega) (by simp)) (by simp)
theorem refMiss_in (a r : Int) (bs : List S75) (ps : List ByteArray) (x y : Int) (R : List Ent) (hR : R.length < 4611686018427387904) (hp : ps.length ≤ 8796093022208) (i : Nat) (hi : i < ps.length) (out : List ByteArray) (ho : out.length ≤ i) (V : List ByteArray)
  (hN : Ev (fun k => zx.l0 k R (if R.any (fun e => decide (e.f0 = ps[i])) = true then out else out ++ [ps[i]]) ((i + 1 : Nat) : Int) a r bs ps x y) V) (d : Nat) : ∀ (j : Nat) (has : Bool),j + d = R.length → (has || (R.drop j).any (fun e => decide (e.f0 = ps[i]))) = R.any (fun e => decide (e.f0 = ps[i])) →
  Ev (fun k => zx.l1 k R out (i : Int) has (j : Int) a r bs ps x y) V := by
 induction d with
 | zero =>
  intro j has hj hh
  refine Ev.step (fun k => by rw [zx.l1]) ?_
  refine zS (by omega) ?_
  rw [List.drop_eq_nil_of_le (by omega),List.any_nil,Bool.or_false] at hh
  rw [← hh] at hN
  rcases has with _ | _
  ·rw [zes ps i hi,z4 (by omega) (by omega)]
   exact zS (by simp) (zE (by omega) (zE (by omega) (zE (by omega) (by simpa using hN))))
  ·rw [z4 (by omega) (by omega)]
   exact zE rfl (by simpa using hN)
 | succ d ih =>
  intro j has hj hh
  refine Ev.step (fun k => by rw [zx.l1]) ?_
  have h1 : j < R.length := by omega
  refine zE (by omega) ?_
  rw [zc6 R j h1,z4 (x := (j : Int) + 1) (by omega) (by omega)]
  rw [List.drop_eq_getElem_cons h1,List.any_cons] at hh
  rcases has with _ | _
  ·rw [zes ps i hi]
   refine zS (by simp) (zE (by omega) (zE (by omega) (zE (by omega) (ih (j + 1) _ (by omega) ?_))))
   rw [← hh,zb1];simp
  ·exact zE rfl (ih (j + 1) true (by omega) (by simpa using hh))
theorem zix (a r : Int) (bs : List S75) (ps : List ByteArray) (x y : Int) (R : List Ent) (hR : R.length < 4611686018427387904) (hp : ps.length ≤ 8796093022208) (d : Nat) : ∀ (i : Nat) (out : List ByteArray),i + d = ps.length → out.length ≤ i →
  Ev (fun k => zx.l0 k R out (i : Int) a r bs ps x y) (out ++ (ps.drop i).filter fun p => !R.any fun e => decide (e.f0 = p)) := by
 induction d with
 | zero =>
  intro i out hi ho
  refine Ev.step (fun k => by rw [zx.l0]) ?_
  refine zS (by omega) (zad (Ev.now _) ?_)
  rw [List.drop_eq_nil_of_le (by omega)];simp
 | succ d ih =>
  intro i out hi ho
  refine Ev.step (fun k => by rw [zx.l0]) ?_
  have h1 : i < ps.length := by omega
  refine zE (by omega) (refMiss_in a r bs ps x y R hR hp i h1 out ho _ (zad (ih (i + 1) _ (by omega) ?_) ?_) R.length 0 false (by omega) (by simp))
  ·split
   ·omega
   ·simp only [List.length_append,List.length_singleton];omega
  ·rw [List.drop_eq_getElem_cons h1,List.filter_cons]
   by_cases h : R.any (fun e => decide (e.f0 = ps[i])) = true
   ·rw [if_pos h,if_neg (by rw [h];simp)]
   ·rw [if_neg h,if_pos (by rw [Bool.not_eq_true] at h;rw [h];rfl),List.append_assoc];rfl
theorem zgU (n lo : Int) (L : List Ent) (a r : Int) (bs : List S75) (ps : List ByteArray) (x y : Int) (hL : L.length < 1466015503701) (hp : ps.length ≤ 8796093022208) :
  Ev (fun k => zx.f k n lo L a r bs ps x y) (zbr L lo r ps) := by
 unfold zbr
 by_cases h : wrap64 (r - 1) ≤ lo
 ·rw [if_pos h];exact zE h (Ev.now _)
 ·rw [if_neg h]
  have hR : (zdP L (wrap64 (r - 1))).length ≤ L.length := List.length_filter_le _ _
  refine zS h (Ev.bind (ziz n lo _ L hL) (zad (zix a r bs ps x y _ (by omega) hp ps.length 0 [] (by omega) (by simp)) ?_))
  rw [List.drop_zero,List.nil_append]
  congr 1
  funext p
  rw [zdP,List.any_filter]
  congr 1
  refine congrArg (fun q => L.any q) (funext fun e => ?_)
  by_cases h1 : e.f1.f1 = wrap64 (r - 1) <;> by_cases h2 : e.f0 = p <;> simp [h1,h2]
def zd7 (n lo : Int) (L : List Ent) : Nat → Nat → Bool
 | 0,_ => true
 | d + 1,j => okE n lo L j (L.getD j z39) && zd7 n lo L d (j + 1)
theorem zgv (n lo : Int) (L : List Ent) : ∀ d j : Nat,zd7 n lo L d j = (List.range' j d).all fun i => okE n lo L i (L.getD i z39)
 | 0,_ => rfl
 | d + 1,j => by rw [zd7,zgv n lo L d (j + 1),List.range'_succ,List.all_cons]
theorem zfH (n lo : Int) (L : List Ent) : zbO n lo L = (zcy n && decide (0 ≤ lo) && zd7 n lo L L.length 0) := by
 rw [zbO,zgv,List.range_eq_range']
theorem ziv (a r : Int) (bs : List S75) (ps : List ByteArray) (x y a' r' : Int) (bs' : List S75) (ps' : List ByteArray) (x' y' : Int) : zaC.f a r bs ps x y a' r' bs' ps' x' y' = some (zbd a r a' r') := by
 unfold zaC.f zbd
 by_cases h : r = r'
 ·rw [if_pos h]
  exact congrArg some (decide_eq_decide.2 (by omega))
 ·rw [if_neg h]
  exact congrArg some (decide_eq_decide.2 (by omega))
theorem zgV (n lo : Int) (L : List Ent) (hL : L.length < 1466015503701) (hs : ∀ x ∈ L,zhl x) (d : Nat) : ∀ j : Nat,j + d = L.length →
  Ev (fun k => zk.l0 k (j : Int) n lo L) (zd7 n lo L d j) := by
 induction d with
 | zero =>
  intro j hj
  refine Ev.step (fun k => by rw [zk.l0]) ?_
  exact zS (by omega) (Ev.now _)
 | succ d ih =>
  intro j hj
  refine Ev.step (fun k => by rw [zk.l0]) ?_
  have h1 : j < L.length := by omega
  refine zE (by omega) (zE (by omega) ?_)
  have hf := hs _ (List.getElem_mem h1)
  have hps := hf.ps
  have hg : L.getD j z39 = L[j] := by rw [List.getD_eq_getElem?_getD,List.getElem?_eq_getElem h1];rfl
  have ih := ih (j + 1) (by omega)
  rw [zc6 L j h1,zd7,hg]
  have J2 : ∀ b : Bool,Ev (fun k => zk.j2 k (j : Int) b n lo L L[j].f0 L[j].f1.f0 L[j].f1.f1 L[j].f1.f2 L[j].f1.f3 L[j].f1.f4.f0 L[j].f1.f4.f1) (!b && ((decide (j = 0) || zbd (L.getD (j - 1) z39).f1.f0 (L.getD (j - 1) z39).f1.f1 L[j].f1.f0 L[j].f1.f1) && zd7 n lo L d (j + 1))) := by
   intro b
   refine Ev.step (fun k => by rw [zk.j2]) ?_
   rcases b with _ | _
   ·refine zS (by simp) ?_
    rw [z4 (x := (j : Int) + 1) (by omega) (by omega)]
    by_cases h0 : j = 0
    ·exact zS (by omega) (zad ih (by simp [h0]))
    ·have e2 : wrap64 ((j : Int) - 1) = ((j - 1 : Nat) : Int) := by rw [z4 (by omega) (by omega)];omega
     have h2 : j - 1 < L.length := by omega
     have hg2 : L.getD (j - 1) z39 = L[j - 1] := by rw [List.getD_eq_getElem?_getD,List.getElem?_eq_getElem h2];rfl
     rw [e2,zc6 L (j - 1) h2,hg2]
     refine zE (by omega) (zE (by omega) (zE (by omega) (zaw (ziv ..) ?_)))
     by_cases h3 : zbd L[j - 1].f1.f0 L[j - 1].f1.f1 L[j].f1.f0 L[j].f1.f1 = true
     ·exact zE h3 (zad ih (by simp [h3]))
     ·exact zS h3 (zad (Ev.now _) (by simp [h0,h3]))
   ·exact zE rfl (zad (Ev.now _) (by simp))
  refine Ev.bind (zeR _ _ _ _ _ _ _ hf.bs hf.tx (by omega) hf.t) (Ev.bind (zgU n lo L _ _ _ _ _ _ hL hf.ps) ?_)
  unfold okE
  by_cases c1 : (z6 L[j].f1.f0 L[j].f1.f1 L[j].f1.f2 L[j].f1.f3 L[j].f1.f4.f0 L[j].f1.f4.f1 n).2 = 0
  ·refine zE c1 ?_
   by_cases c2 : (z6 L[j].f1.f0 L[j].f1.f1 L[j].f1.f2 L[j].f1.f3 L[j].f1.f4.f0 L[j].f1.f4.f1 n).1 = L[j].f0
   ·refine zE ((zcP _ _).2 c2) ?_
    by_cases c3 : L[j].f1.f1 ≤ lo
    ·refine zE c3 (zad (J2 true) ?_)
     simp [show ¬ lo < L[j].f1.f1 by omega]
    ·refine zS c3 (zad (J2 _) ?_)
     by_cases c4 : (zbr L lo L[j].f1.f1 L[j].f1.f3).length = 0
     ·simp [c1,c2,c4,show lo < L[j].f1.f1 by omega]
     ·have c5 : ((zbr L lo L[j].f1.f1 L[j].f1.f3).length : Int) > 0 := by omega
      simp only [decide_eq_true c5,decide_eq_false c4];simp
   ·exact zS (fun e => c2 ((zcP _ _).1 e)) (zad (J2 true) (by simp [c2]))
  ·exact zS c1 (zad (J2 true) (by simp [c1]))
theorem zed (n lo : Int) (L : List Ent) (hL : L.length < 1466015503701) (hs : ∀ x ∈ L,zhl x) : Ev (fun k => zk.f k n lo L) (zbO n lo L) := by
 rw [zfH]
 have J0 : ∀ b : Bool,Ev (fun k => zk.j0 k b n lo L) (!b && zd7 n lo L L.length 0) := by
  intro b
  refine Ev.step (fun k => by rw [zk.j0]) ?_
  rcases b with _ | _
  ·exact zS (by simp) (zad (zgV n lo L hL hs L.length 0 (by omega)) (by simp))
  ·exact zE rfl (zad (Ev.now _) (by simp))
 refine zaw (zdO n) ?_
 by_cases h0 : zcy n = true
 ·refine zE h0 (zad (J0 _) ?_)
  by_cases h : lo < 0
  ·simp [h,show ¬ 0 ≤ lo by omega]
  ·simp [h,h0,show 0 ≤ lo by omega]
 ·exact zS h0 (zad (J0 true) (by simp [h0]))
theorem zeh : (z6 2 1 [] [] 0 0 4).2 = 0 := by
 rw [z6,if_pos]
 rw [zcW]
 simp [zcV,ze0,zb4]
theorem zhW {a r : Int} {bs : List S75} {ps : List ByteArray} {x y n : Int} (h : (z6 a r bs ps x y n).2 = 0) : (z6 a r bs ps x y n).1.size = 32 := by
 unfold z6 at h ⊢
 split
 ·exact shaB_size _
 ·next hm => rw [if_neg hm] at h;cases h
theorem shown11_of : zaO.f = some true := by
 have hz := zhW zeh
 have hv := zeh
 have w1 : wrap64 (1 - 1) ≤ 0 := by rw [z4 (by decide) (by decide)];decide
 have l1 : ∀ L : List Ent,zbr L 0 1 [] = [] := fun L => if_pos w1
 have y1 : zfZ 4 0 [] 2 1 [] [] 0 0 = 0 := by
  unfold zfZ
  rw [if_neg (by simp [hv]),if_neg (by decide),if_neg (by simp [zda]),if_neg (by simp [byE]),l1,if_neg (by simp)]
 have a1 : zar.f 4 0 ([] : List Ent) 2 1 [] [] 0 0 = some (4,0,[⟨(z6 2 1 [] [] 0 0 4).1,⟨2,1,[],[],⟨0,0⟩⟩⟩],0) := by
  unfold zar.f
  rw [if_pos (by simp),y1,addE,if_pos y1];rfl
 have y2 : zfZ 4 0 [⟨(z6 2 1 [] [] 0 0 4).1,⟨2,1,[],[],⟨0,0⟩⟩⟩] 2 1 [] [] 0 0 = 8 := by
  unfold zfZ
  rw [if_neg (by simp [hv]),if_neg (by decide),if_pos (by simp [zda])]
 have a2 : zar.f 4 0 [⟨(z6 2 1 [] [] 0 0 4).1,⟨2,1,[],[],⟨0,0⟩⟩⟩] 2 1 [] [] 0 0 = some (4,0,[⟨(z6 2 1 [] [] 0 0 4).1,⟨2,1,[],[],⟨0,0⟩⟩⟩],8) := by
  unfold zar.f
  rw [if_pos (by simp),y2,addE,if_neg (by rw [y2];decide)]
 have r1 : zbO 4 0 [⟨(z6 2 1 [] [] 0 0 4).1,⟨2,1,[],[],⟨0,0⟩⟩⟩] = true := by
  rw [zfH]
  show (zcy 4 && decide ((0 : Int) ≤ 0) && (okE 4 0 _ 0 _ && true)) = true
  unfold okE
  simp [hv,l1,zcV,List.getD]
 unfold zaO.f
 rw [a1]
 simp only [Option.bind_some]
 rw [a2]
 simp only [Option.bind_some,if_true,List.length_cons,List.length_nil]
 have e0 : zd [(⟨(z6 2 1 [] [] 0 0 4).1,⟨2,1,[],[],⟨0,0⟩⟩⟩ : Ent)] 0 = ⟨(z6 2 1 [] [] 0 0 4).1,⟨2,1,[],[],⟨0,0⟩⟩⟩ := rfl
 rw [e0]
 rw [if_pos (by decide),if_pos (by decide),if_pos (by show ((z6 2 1 [] [] 0 0 4).1.size : Int) = 32;omega)]
 unfold zaI.f
 rw [if_pos (by simp),r1];rfl
def zeI (L : List Ent) : Prop := L.Pairwise fun x y => x.f0 ≠ y.f0
theorem zg6 : ∀ {L : List Ent},zeI L → ∀ {i j : Nat} {x y : Ent},L[i]? = some x → L[j]? = some y → x.f0 = y.f0 → i = j
 | [],_,i,j,x,y,hx,_,_ => by simp at hx
 | a :: L,h,i,j,x,y,hx,hy,he => by
  have h1 := List.pairwise_cons.1 h
  rcases i with _ | i <;> rcases j with _ | j
  ·rfl
  ·rw [List.getElem?_cons_zero] at hx
   rw [List.getElem?_cons_succ] at hy
   injection hx with hx;subst hx
   exact absurd he (h1.1 y (List.mem_of_getElem? hy))
  ·rw [List.getElem?_cons_succ] at hx
   rw [List.getElem?_cons_zero] at hy
   injection hy with hy;subst hy
   exact absurd he.symm (h1.1 x (List.mem_of_getElem? hx))
  ·rw [List.getElem?_cons_succ] at hx hy
   rw [zg6 h1.2 hx hy he]
theorem apart_eq {L : List Ent} (h : zeI L) {x y : Ent} (hx : x ∈ L) (hy : y ∈ L) (he : x.f0 = y.f0) : x = y := by
 obtain ⟨i,hi⟩ := List.mem_iff_getElem?.1 hx
 obtain ⟨j,hj⟩ := List.mem_iff_getElem?.1 hy
 have := zg6 h hi hj he
 subst this
 rw [hi] at hj
 exact Option.some.inj hj
theorem zdc {L : List Ent} {r : Int} {k : Nat} {x : Ent} : x ∈ zb3 L r k ↔ x ∈ L ∧ x.f1.f1 = zcf r k := by
 unfold zb3 zce
 rw [List.mem_filter,decide_eq_true_eq]
theorem zhc {L : List Ent} (h : zeI L) (r : Int) (k : Nat) : zeI (zb3 L r k) := List.Pairwise.filter _ h
theorem okPt_cut (r0 : Int) (g : ByteArray) (r : Int) (W : ByteArray → Bool) (x z : Ent) (h : z.f0 ≠ x.f0) : zdd r0 g r (fun y => if y = x.f0 then false else W y) z = zdd r0 g r W z := by
 unfold zdd
 dsimp only
 rw [if_neg h]
theorem zgo (r0 : Int) (g : ByteArray) (r : Int) : ∀ (l : List Ent) (s : StP × (ByteArray → Bool)),zeI l →
  (∀ y,(∃ x ∈ l,x.f0 = y ∧ zdd r0 g r s.1.2 x = true) → (l.foldl (zbC r0 g r) s).1.1 y = some r) ∧
  (∀ y,(¬ ∃ x ∈ l,x.f0 = y ∧ zdd r0 g r s.1.2 x = true) → (l.foldl (zbC r0 g r) s).1.1 y = s.1.1 y) ∧
  (∀ y,(l.foldl (zbC r0 g r) s).2 y = true ↔ s.2 y = true ∨ ∃ x ∈ l,zdd r0 g r s.1.2 x = true ∧ y ∈ x.f1.f3)
 | [],s,_ => ⟨fun y ⟨x,hx,_⟩ => (by cases hx),fun y _ => rfl,fun y => ⟨.inl,fun h => h.elim id (fun ⟨x,hx,_⟩ => (by cases hx))⟩⟩
 | a :: l,s,h => by
  have h1 := List.pairwise_cons.1 h
  rw [List.foldl_cons]
  obtain ⟨i1,i2,i3⟩ := zgo r0 g r l (zbC r0 g r s a) h1.2
  by_cases ha : zdd r0 g r s.1.2 a = true
  ·have e : zbC r0 g r s a = ((fun y => if y = a.f0 then some r else s.1.1 y,fun y => if y = a.f0 then false else s.1.2 y),fun y => s.2 y || a.f1.f3.any fun p => decide (p = y)) := if_pos ha
   have e2 : ∀ z ∈ l,zdd r0 g r (zbC r0 g r s a).1.2 z = zdd r0 g r s.1.2 z := fun z hz => by rw [e];exact okPt_cut _ _ _ _ _ _ (fun hc => h1.1 z hz hc.symm)
   refine ⟨fun y hy => ?_,fun y hy => ?_,fun y => ?_⟩
   ·obtain ⟨x,hx,hxy,hxo⟩ := hy
    rcases List.mem_cons.1 hx with rfl | hx
    ·rw [i2 y (fun ⟨z,hz,hzy,_⟩ => h1.1 z hz (hxy.trans hzy.symm)),e]
     exact if_pos hxy.symm
    ·exact i1 y ⟨x,hx,hxy,by rw [e2 x hx];exact hxo⟩
   ·rw [i2 y (fun ⟨z,hz,hzy,hzo⟩ => hy ⟨z,List.mem_cons_of_mem _ hz,hzy,by rw [← e2 z hz];exact hzo⟩),e]
    exact if_neg (fun hc => hy ⟨a,List.mem_cons_self,hc.symm,ha⟩)
   ·rw [i3 y,e]
    simp only [Bool.or_eq_true,List.any_eq_true,decide_eq_true_eq]
    constructor
    ·rintro ((hs | ⟨p,hp,rfl⟩) | ⟨x,hx,hxo,hxy⟩)
     ·exact .inl hs
     ·exact .inr ⟨a,List.mem_cons_self,ha,hp⟩
     ·exact .inr ⟨x,List.mem_cons_of_mem _ hx,by rw [← e2 x hx,e];exact hxo,hxy⟩
    ·rintro (hs | ⟨x,hx,hxo,hxy⟩)
     ·exact .inl (.inl hs)
     ·rcases List.mem_cons.1 hx with rfl | hx
      ·exact .inl (.inr ⟨y,hxy,rfl⟩)
      ·exact .inr ⟨x,hx,by rw [← e2 x hx,e] at hxo;exact hxo,hxy⟩
  ·have e : zbC r0 g r s a = s := if_neg ha
   rw [e] at i1 i2 i3 ⊢
   refine ⟨fun y hy => ?_,fun y hy => ?_,fun y => ?_⟩
   ·obtain ⟨x,hx,hxy,hxo⟩ := hy
    rcases List.mem_cons.1 hx with rfl | hx
    ·exact absurd hxo ha
    ·exact i1 y ⟨x,hx,hxy,hxo⟩
   ·exact i2 y (fun ⟨z,hz,hh⟩ => hy ⟨z,List.mem_cons_of_mem _ hz,hh⟩)
   ·rw [i3 y]
    constructor
    ·rintro (hs | ⟨x,hx,hh⟩)
     ·exact .inl hs
     ·exact .inr ⟨x,List.mem_cons_of_mem _ hx,hh⟩
    ·rintro (hs | ⟨x,hx,hxo,hxy⟩)
     ·exact .inl hs
     ·rcases List.mem_cons.1 hx with rfl | hx
      ·exact absurd hxo ha
      ·exact .inr ⟨x,hx,hxo,hxy⟩
def Rch (L : List Ent) (t : Ent) : Nat → Ent → Prop
 | 0,x => x ∈ L ∧ x.f1.f1 = t.f1.f1 ∧ x.f0 = t.f0
 | k + 1,x => x ∈ L ∧ x.f1.f1 = zcf t.f1.f1 (k + 1) ∧ ∃ z,Rch L t k z ∧ x.f0 ∈ z.f1.f3
theorem Rch.mem {L : List Ent} {t x : Ent} : ∀ {k : Nat},Rch L t k x → x ∈ L ∧ x.f1.f1 = zcf t.f1.f1 k
 | 0,h => ⟨h.1,h.2.1⟩
 | _ + 1,h => ⟨h.1,h.2.1⟩
theorem Rch.low {L : List Ent} {t x : Ent} : ∀ {k : Nat},Rch L t k x → ∀ j,j ≤ k → zb3 L t.f1.f1 j ≠ []
 | 0,h,j,hj => by
  obtain rfl : j = 0 := by omega
  exact List.ne_nil_of_mem (zdc.2 h.mem)
 | k + 1,h,j,hj => by
  by_cases he : j = k + 1
  ·subst he
   exact List.ne_nil_of_mem (zdc.2 h.mem)
  ·obtain ⟨_,_,z,hz,_⟩ := h
   exact hz.low j (by omega)
theorem Rch.lt {L : List Ent} {t x : Ent} {k : Nat} (h : Rch L t k x) (hL : L.length < 1466015503701) : k < zd1 L t.f1.f1 := by
 have h2 := (zf6 L t.f1.f1 hL).2
 rcases Nat.lt_or_ge k (zd1 L t.f1.f1) with h3 | h3
 ·exact h3
 ·exact absurd h2 (h.low _ h3)
theorem topK_few {L : List Ent} {t : Ent} (hL : L.length < 1466015503701) : zd1 L t.f1.f1 ≤ L.length := zik L t.f1.f1 _ (by
 have : zd1 L t.f1.f1 ≤ L.length + 1 := by
  unfold zd1
  have key : ∀ d k,zil L t.f1.f1 d k ≤ k + d := by
   intro d
   induction d with
   | zero => intro k;exact Nat.le_refl _
   | succ d ih =>
    intro k
    unfold zil
    split
    ·omega
    ·have := ih (k + 1);omega
  have := key (L.length + 1) 0
  omega
 omega) (zf6 L t.f1.f1 hL).1
theorem ok_is {L : List Ent} {t : Ent} (hL : L.length < 1466015503701) {k : Nat} (hk : k < zd1 L t.f1.f1) {x : Ent} : zdd t.f1.f1 t.f0 (zcf t.f1.f1 k) (zbH L t.f1.f1 t.f0 k).2 x = (zbH L t.f1.f1 t.f0 k).2 x.f0 := by
 unfold zdd
 rcases k with _ | k
 ·show (decide (x.f0 = t.f0) && !(decide (t.f1.f1 = t.f1.f1) && decide (x.f0 ≠ t.f0))) = decide (x.f0 = t.f0)
  by_cases h : x.f0 = t.f0 <;> simp [h]
 ·have := topK_few (t := t) hL
  have hne : ¬ zcf t.f1.f1 (k + 1) = t.f1.f1 := fun e => rndK_ne t.f1.f1 (i := 0) (j := k + 1) (by omega) (by omega) e.symm
  rw [decide_eq_false hne,Bool.false_and,Bool.not_false,Bool.and_true]
theorem zhZ {L : List Ent} {t : Ent} (hu : zeI L) (hL : L.length < 1466015503701) : ∀ {k : Nat},k < zd1 L t.f1.f1 → ∀ x ∈ zb3 L t.f1.f1 k,((zbH L t.f1.f1 t.f0 k).2 x.f0 = true ↔ Rch L t k x)
 | 0,_,x,hx => by
  have hm := zdc.1 hx
  show decide (x.f0 = t.f0) = true ↔ _
  rw [decide_eq_true_eq]
  exact ⟨fun h => ⟨hm.1,hm.2,h⟩,fun h => h.2.2⟩
 | k + 1,hk,x,hx => by
  have hm := zdc.1 hx
  have hf := (zgo t.f1.f1 t.f0 (zcf t.f1.f1 k) (zb3 L t.f1.f1 k) (zbH L t.f1.f1 t.f0 k,fun _ => false) (zhc hu _ _)).2.2 x.f0
  have ih := zhZ hu hL (t := t) (k := k) (by omega)
  show ((zb3 L t.f1.f1 k).foldl (zbC t.f1.f1 t.f0 (zcf t.f1.f1 k)) (zbH L t.f1.f1 t.f0 k,fun _ => false)).2 x.f0 = true ↔ _
  rw [hf]
  constructor
  ·rintro (h | ⟨z,hz,hzo,hzp⟩)
   ·cases h
   ·rw [show zdd t.f1.f1 t.f0 (zcf t.f1.f1 k) (zbH L t.f1.f1 t.f0 k,fun _ => false).1.2 z = _ from ok_is hL (by omega)] at hzo
    exact ⟨hm.1,hm.2,z,(ih z hz).1 hzo,hzp⟩
  ·rintro ⟨_,_,z,hz,hzp⟩
   have hzl := zdc.2 hz.mem
   exact .inr ⟨z,hzl,by rw [show zdd t.f1.f1 t.f0 (zcf t.f1.f1 k) (zbH L t.f1.f1 t.f0 k,fun _ => false).1.2 z = _ from ok_is hL (by omega)];exact (ih z hzl).2 hz,hzp⟩
theorem in_step {L : List Ent} {t : Ent} (hu : zeI L) (hL : L.length < 1466015503701) {k : Nat} (hk : k < zd1 L t.f1.f1) (y : ByteArray) :
  ((∃ x,Rch L t k x ∧ x.f0 = y) → (zbH L t.f1.f1 t.f0 (k + 1)).1 y = some (zcf t.f1.f1 k)) ∧ ((¬ ∃ x,Rch L t k x ∧ x.f0 = y) → (zbH L t.f1.f1 t.f0 (k + 1)).1 y = (zbH L t.f1.f1 t.f0 k).1 y) := by
 obtain ⟨h1,h2,_⟩ := zgo t.f1.f1 t.f0 (zcf t.f1.f1 k) (zb3 L t.f1.f1 k) (zbH L t.f1.f1 t.f0 k,fun _ => false) (zhc hu _ _)
 refine ⟨fun ⟨x,hx,hy⟩ => h1 y ⟨x,zdc.2 hx.mem,hy,?_⟩,fun h => h2 y (fun ⟨x,hx,hy,ho⟩ => h ⟨x,?_,hy⟩)⟩
 ·rw [show zdd t.f1.f1 t.f0 (zcf t.f1.f1 k) (zbH L t.f1.f1 t.f0 k,fun _ => false).1.2 x = _ from ok_is hL hk]
  exact (zhZ hu hL hk x (zdc.2 hx.mem)).2 hx
 ·rw [show zdd t.f1.f1 t.f0 (zcf t.f1.f1 k) (zbH L t.f1.f1 t.f0 k,fun _ => false).1.2 x = _ from ok_is hL hk] at ho
  exact (zhZ hu hL hk x hx).1 ho
theorem in_upto {L : List Ent} {t : Ent} (hu : zeI L) (hL : L.length < 1466015503701) (y : ByteArray) (q : Int) : ∀ m,m ≤ zd1 L t.f1.f1 → ((zbH L t.f1.f1 t.f0 m).1 y = some q ↔ ∃ k x,k < m ∧ Rch L t k x ∧ x.f0 = y ∧ q = x.f1.f1)
 | 0,_ => ⟨fun h => (by cases h),fun ⟨k,_,hk,_⟩ => (by omega)⟩
 | m + 1,hm => by
  have ih := in_upto hu hL (t := t) y q m (by omega)
  obtain ⟨s1,s2⟩ := in_step hu hL (t := t) (k := m) (by omega) y
  by_cases hx : ∃ x,Rch L t m x ∧ x.f0 = y
  ·rw [s1 hx]
   obtain ⟨x,hr,hy⟩ := hx
   constructor
   ·intro h
    injection h with h
    exact ⟨m,x,by omega,hr,hy,by rw [← h,hr.mem.2]⟩
   ·rintro ⟨k,z,hk,hz,hzy,rfl⟩
    have e := apart_eq hu hz.mem.1 hr.mem.1 (hzy.trans hy.symm)
    rw [e,hr.mem.2]
  ·rw [s2 hx,ih]
   constructor
   ·rintro ⟨k,z,hk,h⟩
    exact ⟨k,z,by omega,h⟩
   ·rintro ⟨k,z,hk,hz,hzy,hq⟩
    have : k ≠ m := fun e => by subst e;exact hx ⟨z,hz,hzy⟩
    exact ⟨k,z,by omega,hz,hzy,hq⟩
theorem inP_iff {L : List Ent} {t : Ent} (hu : zeI L) (hL : L.length < 1466015503701) (y : ByteArray) (q : Int) : inP L t y = some q ↔ ∃ k x,Rch L t k x ∧ x.f0 = y ∧ q = x.f1.f1 := by
 unfold inP
 rw [in_upto hu hL y q _ (Nat.le_refl _)]
 constructor
 ·rintro ⟨k,x,_,h⟩;exact ⟨k,x,h⟩
 ·rintro ⟨k,x,h,h2⟩;exact ⟨k,x,h.lt hL,h,h2⟩
theorem path_iff {L : List Ent} {t : Ent} (hu : zeI L) (hL : L.length < 1466015503701) (y : ByteArray) : (inP L t y).isSome = true ↔ ∃ k x,Rch L t k x ∧ x.f0 = y := by
 rw [Option.isSome_iff_exists]
 constructor
 ·rintro ⟨q,hq⟩
  obtain ⟨k,x,h1,h2,_⟩ := (inP_iff hu hL y q).1 hq
  exact ⟨k,x,h1,h2⟩
 ·rintro ⟨k,x,h1,h2⟩
  exact ⟨_,(inP_iff hu hL y _).2 ⟨k,x,h1,h2,rfl⟩⟩
end Go.Proofs.YtndjfdakflaggaaGreat.Px
namespace Go.Proofs.YtndjfdakflaggaaGreat.Px
open Go.RowKit Go.Proofs.YtndjfdakflaggaaGreatW.PrintWords Go.Proofs.YtndjfdakflaggaaGreatW.PrintLast Go.Proofs.YtndjfdakflaggaaGreatW.PrintMore
attribute [local go_sem] zA zC zH zI zv zw zB zD
set_option linter.unusedVariables false
set_option linter.unusedSimpArgs false
theorem zhb {L : List Ent} {low r : Int} {ps : List ByteArray} (h : (zbr L low r ps).length = 0) (hr : ¬ wrap64 (r - 1) ≤ low) {p : ByteArray} (hp : p ∈ ps) : ∃ y ∈ L,y.f1.f1 = wrap64 (r - 1) ∧ y.f0 = p := by
 unfold zbr at h
 rw [if_neg hr] at h
 have h2 := List.eq_nil_of_length_eq_zero h
 rw [List.filter_eq_nil_iff] at h2
 have h3 := h2 p hp
 simpa using h3
theorem pairU_says {x y : Ent} (h : zdC x y = true) (he : x.f0 = y.f0) : x.f1 = y.f1 := by
 unfold zdC at h
 rw [decide_eq_true he,Bool.not_true,Bool.false_or,zdS] at h
 obtain ⟨x0,⟨p1,p2,p3,p4,⟨p5,p6⟩⟩⟩ := x
 obtain ⟨y0,⟨q1,q2,q3,q4,⟨q5,q6⟩⟩⟩ := y
 obtain ⟨h1,h2,h3,h4,h5,h6⟩ := h
 simp only at h1 h2 h3 h4 h5 h6
 rw [h1,h2,h3,h4,h5,h6]
theorem zhU {M : List Ent} (h : zc5 M = true) : ∀ x y : Ent,x ∈ M → y ∈ M → x.f0 = y.f0 → x.f1 = y.f1 := by
 intro x y hx hy he
 have get : ∀ (i : Nat) (z : Ent),M[i]? = some z → M.getD i z39 = z := fun i z hz => by rw [List.getD_eq_getElem?_getD,hz];rfl
 have key : ∀ (i j : Nat) (x y : Ent),M[i]? = some x → M[j]? = some y → j < i → x.f0 = y.f0 → x.f1 = y.f1 := fun i j x y hx hy hj he => by
  unfold zc5 at h
  have h1 := List.all_eq_true.1 h i (List.mem_range.2 (List.getElem?_eq_some_iff.1 hx).1)
  have h2 := List.all_eq_true.1 h1 j (List.mem_range.2 hj)
  rw [get i x hx,get j y hy] at h2
  exact pairU_says h2 he
 obtain ⟨i,hi⟩ := List.mem_iff_getElem?.1 hx
 obtain ⟨j,hj⟩ := List.mem_iff_getElem?.1 hy
 rcases Nat.lt_trichotomy i j with hh | hh | hh
 ·exact (key j i y x hj hi hh he.symm).symm
 ·subst hh
  rw [hi] at hj
  injection hj with hj
  rw [hj]
 ·exact key i j x y hi hj hh he
theorem unlike_ev (n lo : Int) (A : List Ent) (n' lo' : Int) (B : List Ent) (hA : A.length ≤ 60) (hB : B.length ≤ 60) (hs : ∀ x ∈ A,zhl x) (hs' : ∀ x ∈ B,zhl x) :
  ∃ u,zF.f n lo A n' lo' B = some u ∧ (u = true → ∀ x y : Ent,x ∈ A ++ B → y ∈ A ++ B → x.f0 = y.f0 → x.f1 = y.f1) := by
 refine ⟨zc5 (A ++ B),if_pos ⟨hA,hB,List.all_eq_true.2 fun x hx => ?_⟩,zhU⟩
 have h := (List.mem_append.1 hx).elim (hs x) (hs' x)
 unfold fitU
 rw [Bool.and_eq_true,Bool.and_eq_true,List.all_eq_true]
 exact ⟨⟨decide_eq_true h.bs,fun b hb => decide_eq_true (h.tx b hb)⟩,decide_eq_true h.ps⟩
end Go.Proofs.YtndjfdakflaggaaGreat.Px
namespace Go.Proofs.YtndjfdakflaggaaGreat.Pure
open Go.RowKit Go.Proofs.YtndjfdakflaggaaGreat.Px Go.Proofs.YtndjfdakflaggaaGreatW.PrintWords Go.Proofs.YtndjfdakflaggaaGreatW.PrintLast Go.Proofs.YtndjfdakflaggaaGreatW.PrintMore
structure zez (n : Int) (L : List Ent) : Prop where
 srt : zfX L
 dig : ∀ x ∈ L,(z6 x.f1.f0 x.f1.f1 x.f1.f2 x.f1.f3 x.f1.f4.f0 x.f1.f4.f1 n).2 = 0 ∧ (z6 x.f1.f0 x.f1.f1 x.f1.f2 x.f1.f3 x.f1.f4.f0 x.f1.f4.f1 n).1 = x.f0
 low : ∀ x ∈ L,0 < x.f1.f1
 lack : ∀ x ∈ L,(zbr L 0 x.f1.f1 x.f1.f3).length = 0
 one : ∀ x ∈ L,∀ y ∈ L,x.f0 = y.f0 → x = y
theorem goodL_nil (n : Int) : zez n [] := ⟨List.Pairwise.nil,fun x hx => (by cases hx),fun x hx => (by cases hx),fun x hx => (by cases hx),fun x hx => (by cases hx)⟩
theorem goodL_add {n : Int} {L : List Ent} {v : Vtx} (h : zez n L) (hw : zh0 n 0 L v = 0) : zez n (zea L (zex n v)) := by
 obtain ⟨w1,w2,w3,w4,w5⟩ := zc8.1 hw
 refine ⟨ze4 h.srt (fun y hy => w4 y hy),fun x hx => ?_,fun x hx => ?_,fun x hx => ?_,fun x hx y hy he => ?_⟩
 ·rcases zbA.1 hx with rfl | hx
  ·exact ⟨w1,rfl⟩
  ·exact h.dig x hx
 ·rcases zbA.1 hx with rfl | hx
  ·exact w2
  ·exact h.low x hx
 ·rcases zbA.1 hx with rfl | hx
  ·exact zfj w5 (fun z hz => zbA.2 (.inr hz))
  ·exact zfj (h.lack x hx) (fun z hz => zbA.2 (.inr hz))
 ·rcases zbA.1 hx with rfl | hx <;> rcases zbA.1 hy with rfl | hy
  ·rfl
  ·exact absurd he.symm (w3 y hy)
  ·exact absurd he (w3 x hx)
  ·exact h.one x hx y hy he
theorem mayV_of {a r : Int} {bs : List S75} {ps : List ByteArray} {x y n : Int} (h : (z6 a r bs ps x y n).2 = 0) : zcy n = true ∧ 1 ≤ r ∧ r ≤ 1048576 ∧ (r = 1 → ps = []) := by
 unfold z6 at h
 split at h
 ·next hm =>
  unfold zbo at hm
  simp only [Bool.and_eq_true,decide_eq_true_eq] at hm
  obtain ⟨⟨⟨⟨⟨⟨⟨⟨⟨h1,_⟩,_⟩,h4⟩,h5⟩,_⟩,_⟩,_⟩,_⟩,h9⟩ := hm
  refine ⟨h1,h4,h5,fun e => ?_⟩
  unfold zb4 at h9
  rw [if_pos e,decide_eq_true_eq] at h9
  exact List.eq_nil_of_length_eq_zero h9
 ·cases h
theorem ziA {n lo : Int} {L : List Ent} (hm : zcy n = true) (hlo : 0 ≤ lo) (hs : zfX L) (hd : ∀ x ∈ L,(z6 x.f1.f0 x.f1.f1 x.f1.f2 x.f1.f3 x.f1.f4.f0 x.f1.f4.f1 n).2 = 0 ∧ (z6 x.f1.f0 x.f1.f1 x.f1.f2 x.f1.f3 x.f1.f4.f0 x.f1.f4.f1 n).1 = x.f0) (hw : ∀ x ∈ L,lo < x.f1.f1) (hk : ∀ x ∈ L,(zbr L lo x.f1.f1 x.f1.f3).length = 0) : zbO n lo L = true := by
 unfold zbO
 rw [hm,decide_eq_true hlo,Bool.and_self,Bool.true_and,List.all_eq_true]
 intro i hi
 have hil := List.mem_range.1 hi
 have hx : L.getD i z39 = L[i] := by rw [List.getD_eq_getElem?_getD,List.getElem?_eq_getElem hil];rfl
 rw [hx,okE_iff]
 have hxm : L[i] ∈ L := List.getElem_mem hil
 refine ⟨(hd _ hxm).1,(hd _ hxm).2,hw _ hxm,hk _ hxm,?_⟩
 rcases i with _ | i
 ·exact .inl rfl
 ·refine .inr ?_
  have hp : L.getD (i + 1 - 1) z39 = L[i] := by rw [Nat.add_sub_cancel,List.getD_eq_getElem?_getD,List.getElem?_eq_getElem (by omega)];rfl
  rw [hp]
  exact (List.pairwise_iff_getElem.1 hs) i (i + 1) (by omega) hil (by omega)
theorem zfD {n : Int} {L : List Ent} (h : zez n L) (hm : zcy n = true) : zbO n 0 L = true := ziA hm (Int.le_refl 0) h.srt h.dig h.low h.lack
theorem ziU {n : Int} {L : List Ent} (h : zez n L) (hm : zcy n = true) (low : Int) (hl : 0 < low) : zbO n low (zc9 L low) = true := by
 have hsub : ∀ x ∈ zc9 L low,x ∈ L ∧ low < x.f1.f1 := fun x hx => by
  unfold zc9 at hx
  rw [List.mem_filter,decide_eq_true_eq] at hx
  exact hx
 refine ziA hm (by omega) (List.Pairwise.filter _ h.srt) (fun x hx => h.dig x (hsub x hx).1) (fun x hx => (hsub x hx).2) (fun x hx => ?_)
 have h1 := h.lack x (hsub x hx).1
 by_cases hw : wrap64 (x.f1.f1 - 1) ≤ low
 ·unfold zbr;rw [if_pos hw];rfl
 ·have hw0 : ¬ wrap64 (x.f1.f1 - 1) ≤ 0 := by omega
  have : zbr (zc9 L low) low x.f1.f1 x.f1.f3 = [] := by
   unfold zbr
   rw [if_neg hw,List.filter_eq_nil_iff]
   intro p hp
   obtain ⟨y,hy,hyr,hyp⟩ := zhb h1 hw0 hp
   simp only [Bool.not_eq_true',Bool.not_eq_false,List.any_eq_true,decide_eq_true_eq]
   refine ⟨y,?_,hyr,hyp⟩
   unfold zc9
   rw [List.mem_filter,decide_eq_true_eq]
   exact ⟨hy,by omega⟩
  rw [this];rfl
theorem zig {n : Int} {L : List Ent} (h : zez n L) : zeI L := by
 refine List.Pairwise.imp_of_mem (fun {x y} hx hy hxy he => ?_) h.srt
 have := zc3.1 hxy
 rw [h.one x hx y hy he] at this
 omega
theorem ziV {n : Int} {L : List Ent} (h : zez n L) (hL : L.length < 1466015503701) {x : Ent} (hx : x ∈ L) {p : ByteArray} (hp : p ∈ x.f1.f3) : zgy L x.f0 p = true := by
 have hf : zda L x.f0 = some x := by
  rcases hq : zda L x.f0 with _ | y
  ·unfold zda at hq
   rw [List.find?_eq_none] at hq
   exact absurd (decide_eq_true (rfl : x.f0 = x.f0)) (hq x hx)
  ·have m := List.mem_of_find?_eq_some hq
   have e := of_decide_eq_true (List.find?_some (p := fun y : Ent => decide (y.f0 = x.f0)) hq)
   rw [h.one y m x hx e]
 unfold zgy
 rw [hf]
 refine (path_iff (zig h) hL (t := x) p).2 ?_
 obtain ⟨_,h1,h2,h3⟩ := mayV_of (h.dig x hx).1
 by_cases hr : x.f1.f1 = 1
 ·rw [h3 hr] at hp;cases hp
 ·have hw : wrap64 (x.f1.f1 - 1) = x.f1.f1 - 1 := z4 (by omega) (by omega)
  obtain ⟨y,hy,hyr,hyp⟩ := zhb (h.lack x hx) (by rw [hw];omega) hp
  exact ⟨1,y,⟨hy,hyr,x,⟨hx,rfl,rfl⟩,by rw [hyp];exact hp⟩,hyp⟩
theorem zh3 (n low tk : Int) (L : List Ent) (hg : zez n L) (hL : L.length < 1466015503701) (b : Bool) (i : Nat) (hi : i < L.length) (hps : L[i].f1.f3.length ≤ 8796093022208)
  (hc : Ev (fun k => zg.l1 k low tk b ((i + 1 : Nat) : Int) n 0 L) true) (d : Nat) : ∀ j : Nat,j + d = L[i].f1.f3.length → Ev (fun k => zg.l2 k low tk b (i : Int) (j : Int) n 0 L) true := by
 induction d with
 | zero =>
  intro j hj
  refine Ev.step (fun k => by rw [zg.l2]) (zE (by omega) (zE (by omega) ?_))
  rw [zc6 L i hi]
  refine zS (by omega) ?_
  rw [z4 (x := (i : Int) + 1) (by omega) (by omega)]
  simpa using hc
 | succ d ih =>
  intro j hj
  have hjl : j < L[i].f1.f3.length := by omega
  refine Ev.step (fun k => by rw [zg.l2]) (zE (by omega) (zE (by omega) ?_))
  rw [zc6 L i hi,zes _ j hjl,z4 (x := (j : Int) + 1) (by omega) (by omega)]
  refine zE (by omega) (zE (by omega) (zaw (show zbx.f n 0 L L[i].f0 L[i].f1.f3[j] = some true from ?_) (zE rfl (ih (j + 1) (by omega)))))
  unfold zbx.f
  rw [if_pos hL,ziV hg hL (List.getElem_mem hi) (List.getElem_mem hjl)]
theorem zh2 (n low tk : Int) (L : List Ent) (hg : zez n L) (hL : L.length < 1466015503701) (hs : ∀ x ∈ L,zhl x) (ht : tk = (L.length : Int)) (hm : L.length ≠ 0 → zcy n = true) (d : Nat) : ∀ i : Nat,i + d = L.length → Ev (fun k => zg.l1 k low tk true (i : Int) n 0 L) true := by
 induction d with
 | zero =>
  intro i hi
  refine Ev.step (fun k => by rw [zg.l1]) (zS (by omega) ?_)
  refine zaw (show zY.f n 0 L low = some (if low ≤ 0 then (n,0,L) else (n,low,zc9 L low)) from if_pos hL) ?_
  by_cases h0 : tk = 0
  ·exact zE h0 (zE rfl (Ev.now _))
  ·refine zS h0 ?_
   have hmn := hm (by omega)
   by_cases hlow : low ≤ 0
   ·rw [if_pos hlow]
    refine Ev.bind (zed n 0 L hL hs) (zE rfl (zE (zfD hg hmn) (Ev.now _)))
   ·rw [if_neg hlow]
    refine Ev.bind (zed n low (zc9 L low) (Nat.lt_of_le_of_lt (List.length_filter_le _ _) hL) (fun x hx => hs x (List.mem_filter.1 hx).1)) (zE rfl (zE (ziU hg hmn low (by omega)) (Ev.now _)))
 | succ d ih =>
  intro i hi
  have hil : i < L.length := by omega
  refine Ev.step (fun k => by rw [zg.l1]) (zE (by omega) ?_)
  exact zh3 n low tk L hg hL true i hil (hs _ (List.getElem_mem hil)).ps (ih (i + 1) (by omega)) L[i].f1.f3.length 0 (by omega)
theorem zh1 (n low : Int) (l : List Vtx) (hl : l.length ≤ 60) (hs : ∀ v ∈ l,zhl ⟨⟨#[]⟩,v⟩) (d : Nat) : ∀ (i : Nat) (L : List Ent),i + d = l.length → L.length ≤ i → zez n L → (∀ x ∈ L,zhl x) →
  Ev (fun k => zg.l0 k l low (L.length : Int) (i : Int) n 0 L) true := by
 induction d with
 | zero =>
  intro i L hi hLi hg hf
  refine Ev.step (fun k => by rw [zg.l0]) (zS (by omega) (zE rfl ?_))
  obtain ⟨u,hu,_⟩ := unlike_ev n 0 L n 0 L (by omega) (by omega) hf hf
  refine zaw hu ?_
  rcases u with _ | _
  ·exact zS (by simp) (Ev.now _)
  ·refine zE rfl ?_
   have hm : L.length ≠ 0 → zcy n = true := fun h => by
    obtain ⟨x,hx⟩ := List.exists_mem_of_length_pos (Nat.pos_of_ne_zero h)
    exact (mayV_of (hg.dig x hx).1).1
   have fin : Ev (fun k => zg.j2 k low (L.length : Int) true n 0 L) true := by
    refine Ev.step (fun k => by rw [zg.j2]) ?_
    exact zh2 n low _ L hg (by omega) hf rfl hm L.length 0 (by omega)
   by_cases h0 : (L.length : Int) = 0
   ·exact zE h0 fin
   ·refine zS h0 (Ev.bind (zed n 0 L (by omega) hf) ?_)
    rw [zfD hg (hm (by omega))]
    exact fin
 | succ d ih =>
  intro i L hi hLi hg hf
  have hil : i < l.length := by omega
  have hv : zN l (i : Int) = l[i] := by
   rw [zN,Int.toNat_natCast,List.getD_eq_getElem?_getD,List.getElem?_eq_getElem hil];rfl
  refine Ev.step (fun k => by rw [zg.l0]) (zE (by omega) (zE (by omega) ?_))
  rw [hv,z4 (x := (i : Int) + 1) (by omega) (by omega),z4 (x := (L.length : Int) + 1) (by omega) (by omega)]
  refine zaw (show zar.f n 0 L l[i].f0 l[i].f1 l[i].f2 l[i].f3 l[i].f4.f0 l[i].f4.f1 = some (n,0,ziO n 0 L l[i],zh0 n 0 L l[i]) from if_pos (by omega)) ?_
  by_cases hw : zh0 n 0 L l[i] = 0
  ·refine zE hw ?_
   rw [zeU hw]
   have hfx : zhl (zex n l[i]) := by
    have := hs l[i] (List.getElem_mem hil)
    exact ⟨this.bs,this.tx,this.ps,this.t⟩
   have := ih (i + 1) (zea L (zex n l[i])) (by omega) (by rw [zeb];omega) (goodL_add hg hw) (fun x hx => (zbA.1 hx).elim (fun e => by rw [e];exact hfx) (hf x))
   rw [zeb] at this
   simpa using this
  ·refine zS hw ?_
   rw [addV_no hw]
   simpa using ih (i + 1) L (by omega) (by omega) hg hf
theorem DagStays : zc0 := by
 rintro n l low _ _ _ _ ⟨l1,l2⟩ _
 have hs : ∀ v ∈ l,zhl ⟨⟨#[]⟩,v⟩ := fun v hv => by
  obtain ⟨_,_,⟨v1,v2⟩,⟨p1,p2⟩,_⟩ := l2 v hv
  have v1' : v.f2.length * 40 ≤ 140737488351232 := v1
  have p1' : v.f3.length * 16 ≤ 140737488351232 := p1
  refine ⟨by show v.f2.length < _;omega,fun b hb => ?_,by show v.f3.length ≤ _;omega,fun t ht => ?_⟩
  ·obtain ⟨_,_,q1,_⟩ := v2 b hb
   have q1' : b.f2.length * 16 ≤ 140737488351232 := q1
   omega
  ·have t1 : t.size ≤ 140737488351232 := p2 t ht
   omega
 show ∃ k,zg.f k n l low = some true
 refine Ev.rounds (zaw shown11_of (zE rfl ?_))
 refine Ev.step (fun k => by rw [zg.j0]) ?_
 by_cases hl : (l.length : Int) > 60
 ·exact zE (decide_eq_true hl) (Ev.now _)
 ·refine zS (by simp;omega) ?_
  exact zh1 n low l (by omega) hs l.length 0 [] (by omega) (by simp) (goodL_nil n) (fun x hx => by cases hx)
end Go.Proofs.YtndjfdakflaggaaGreat.Pure
namespace Go.Proofs.YtndjfdakflaggaaGreat.dagStays
open Go.ChangeShapes Go.WideShapes Go.ChangeAt Go.RowKit
open Go.ChangeMaps (open_string shut_string)
open Go.RowKit Go.Proofs.YtndjfdakflaggaaGreat.Px Go.Proofs.YtndjfdakflaggaaGreatW.PrintWords Go.Proofs.YtndjfdakflaggaaGreatW.PrintLast Go.Proofs.YtndjfdakflaggaaGreatW.PrintMore
set_option linter.unusedVariables false
theorem own : ownKnob Tryz.prog.godebug = none := by kernel_rfl
theorem laidOut : laidOutB Tryz.prog = true := by kernel_rfl
set_option maxRecDepth 100000 in
theorem contract (H : Type) (enc : TypeId × Value → H) (W : World) (base : Nat) (args : Array Value) (ds gs : List (DataW H)) (before : List MemPlace)
  (hval0 : ∀ (j : Nat) t v,Tryz.f3.params[j]? = some t → args[j]? = some v → Value.okWide Tryz.prog W .any base t v)
  (hW : DataW.Whole enc Tryz.prog Tryz.f3.params.toList Rows.dagStaysSpec.vars false W args.toList ds gs before)
  (hsz0 : (DataW.weightsEach Tryz.prog (Tryz.f3.params.toList ++ Rows.dagStaysSpec.plain.varTypes Tryz.prog) (ds ++ gs)).all (· ≤ reachBytes) = true) :
  Calls Tryz.prog 3 args W fun e W' => ∃ v,e = .returned v ∧ Rows.dagStaysSpec.post enc Tryz.prog Tryz.f3 false true false false W args v W' := by
 have hval : ∀ (j : Nat) t v,Tryz.f3.params[j]? = some t → args[j]? = some v → Value.okWide Tryz.prog W .any base t v := hval0
 have hW' := hW
 obtain ⟨p,q,hA0,hV,rfl,hfz,hnd⟩ := hW
 have hA : DataW.TrodAll enc Tryz.prog W 0 (fun _ => true) true Tryz.f3.params.toList args.toList ds p := hA0
 have hsz := hsz0
 rw [Tryz.params3] at hA hval hsz
 obtain ⟨v0,vs0,d0,ds0,p0,q0,hargs,rfl,rfl,h0,r0⟩ := trodAll_cons hA
 obtain ⟨v1,vs1,d1,ds1,p1,q1,rfl,rfl,rfl,h1,r1⟩ := trodAll_cons r0
 obtain ⟨v2,vs2,d2,ds2,p2,q2,rfl,rfl,rfl,h2,r2⟩ := trodAll_cons r1
 obtain ⟨rfl,rfl,rfl⟩ := trodAll_nil r2
 obtain rfl : args = #[v0,v1,v2] := by cases args;simp_all
 obtain ⟨rfl,rfl⟩ := trodVars_none hV
 have t0 := h0
 have lt0 : ∀ x ∈ p0,x.block < W.heap.size := by obtain ⟨m,hm⟩ := t0;exact DataW.trod_lt m _ _ _ hm
 have t1 := h1
 have lt1 : ∀ x ∈ p1,x.block < W.heap.size := by obtain ⟨m,hm⟩ := t1;exact DataW.trod_lt m _ _ _ hm
 have t2 := h2
 have lt2 : ∀ x ∈ p2,x.block < W.heap.size := by obtain ⟨m,hm⟩ := t2;exact DataW.trod_lt m _ _ _ hm
 obtain ⟨a0,K0,ok0,wt0,bk0⟩ := zhw (zdk Tryz.underlying3) h0
 have wq0 := wt0 (fun n hn => of_decide_eq_true (List.all_eq_true.1 hsz n (DataW.weights_mem_each (j := 0) (t := (zaR 3 .i64).t) (d := d0) rfl rfl n hn)))
 obtain ⟨a0',rfl,rfl,rfl,y0⟩ := open_int Tryz.underlying3 (hval 0 3 v0 rfl rfl) h0
 have e0 : a0' = a0 := by have := K0;simpa [zaR,rdBool,zaE,Kd.int,Kd.bool,Kd.string,Kd.scalar,Value.cells] using this
 subst e0
 obtain ⟨a1,K1,ok1,wt1,bk1⟩ := zhw (zem fit35 Tryz.underlying22 (by kernel_rfl) (by kernel_rfl)) h1
 have wq1 := wt1 (fun n hn => of_decide_eq_true (List.all_eq_true.1 hsz n (DataW.weights_mem_each (j := 1) (t := (zao 22 80 rd35).t) (d := d1) rfl rfl n hn)))
 obtain ⟨A1,len1,cap1,rfl⟩ := okWide_slice Tryz.underlying22 (hval 1 22 v1 rfl rfl)
 obtain ⟨A1',c1,e1,l1,g1⟩ := K1
 simp only [Value.cells,List.cons.injEq,Value.slice.injEq,and_true] at e1
 obtain ⟨rfl,rfl,rfl⟩ := e1
 obtain ⟨a2,K2,ok2,wt2,bk2⟩ := zhw (zdk Tryz.underlying3) h2
 have wq2 := wt2 (fun n hn => of_decide_eq_true (List.all_eq_true.1 hsz n (DataW.weights_mem_each (j := 2) (t := (zaR 3 .i64).t) (d := d2) rfl rfl n hn)))
 obtain ⟨a2',rfl,rfl,rfl,y2⟩ := open_int Tryz.underlying3 (hval 2 3 v2 rfl rfl) h2
 have e2 : a2' = a2 := by have := K2;simpa [zaR,rdBool,zaE,Kd.int,Kd.bool,Kd.string,Kd.scalar,Value.cells] using this
 subst e2
 obtain ⟨kk,hkk⟩ := Pure.DagStays a0' a1 a2' ok0 ok1 ok2 wq0 wq1 wq2
 refine (zg.calls kk a0' A1 cap1 a1 a2' true W g1 l1 hkk).mono fun e W' ⟨he,bel0⟩ => ?_
 have bel := bel0
 subst he
 exact ⟨_,rfl,_,_,_,[],_,[],hW',trodAll_mk1 (shut_bool Tryz.underlying4 _),(trodAll_cons_mk (Below.trod laidOut (by kernel_rfl) (of_decide_eq_true (by kernel_rfl)) t0 bel lt0) (trodAll_cons_mk (Below.trod laidOut (by kernel_rfl) (of_decide_eq_true (by kernel_rfl)) t1 bel lt1) (trodAll_cons_mk (Below.trod laidOut (by kernel_rfl) (of_decide_eq_true (by kernel_rfl)) t2 bel lt2) trodAll_mk0))),rfl,bel.frame _,fun h => by cases h⟩
set_option maxRecDepth 100000 in
theorem lifted (os : Os) (started : os.Started) (H : Type) (enc : TypeId × Value → H) :
  ReturnsInHanded {} Tryz.checked os 3 .any (Rows.dagStaysSpec.pre6 enc Tryz.prog Tryz.f3 Rows.dagStaysRow.domain false) (Rows.dagStaysSpec.post enc Tryz.prog Tryz.f3 false true false false) := by
 refine returnsInHanded_of_change_sized (C := Tryz.checked) own started (by kernel_rfl) Tryz.func3
  (ChangeSpec.witness6 (enc := enc) (C := Tryz.checked) false ⟨#[],#[.int .i64 0,.slice none 0 0,.int .i64 0],[]⟩ 8 (by kernel_rfl) (by kernel_rfl) (by kernel_rfl) (by kernel_rfl)) ?_
 intro W base args ds gs before hval hW _ hsz _
 exact contract H enc W base args ds gs before hval hW hsz
theorem proved : Rows.DagStaysSaid :=
 OpenClaim.holds_of_wide 3 Tryz.f3 rfl rfl rfl rfl rfl rfl rfl ⟨rfl,rfl,rfl,rfl,rfl⟩ rfl rfl rfl rfl rfl (by kernel_rfl) Tryz.func3 (by kernel_rfl)
  (of_decide_eq_true (by kernel_rfl)) (by unfold Func.isWrapper;first | (rw [if_pos (by decide +kernel)];kernel_rfl) | (rw [if_neg (by decide +kernel)];exact ⟨rfl,rfl⟩))
  (fun os started H enc _ => lifted os started H enc)
#print axioms proved
end Go.Proofs.YtndjfdakflaggaaGreat.dagStays
namespace Go.Proofs.YtndjfdakflaggaaGreat
theorem dagStays_holds : Rows.DagStaysSaid := dagStays.proved
end Go.Proofs.YtndjfdakflaggaaGreat