/- Part 35 of 35 of the proof of the law CertBytes: what is proved is the statement at the end of the last part; its conditions are those of the given row. -/
import Derived.Test.YtfhbeonhnhjikaaGreatRows
import Derived.Deep.Slices
import Derived.ChangeArms
import Derived.SizedLaws
import Derived.WideOpen
import Derived.ProofKit
import Derived.OpenShut
import Derived.ShutString
import Derived.ChangeOld
import Derived.JoinedCond
import Derived.Carry
import Derived.WideShapes
import Derived.Test.YtfhbeonhnhjikaaGreatZCertBytesh
namespace Go.Proofs.YtfhbeonhnhjikaaGreat.Px
open Go.RowKit Go.Proofs.YtfhbeonhnhjikaaGreatW.PrintWords Go.Proofs.YtfhbeonhnhjikaaGreatW.PrintLast Go.Proofs.YtfhbeonhnhjikaaGreatW.PrintMore
attribute [local go_sem] zz zB zI zJ zp zq zA zC
set_option linter.unusedVariables false
set_option linter.unusedSimpArgs false
structure Rd (α : Type) where
 t : TypeId
 d : Kd α
 ok : α → Prop
 wt : α → Prop
 bk : α → Nat
structure zf0 {α : Type} (P : Program) (r : Rd α) : Prop where
 out : ∀ {H : Type} {enc : TypeId × Value → H} {w : World} {fuel : Nat} {cs : List Value} {x : DataW H × List MemPlace},DataW.trod enc P w 0 (fun _ => true) true fuel r.t cs = some x →
  ∃ a,r.d.K w a cs ∧ r.ok a ∧ ((∀ n ∈ x.1.weights P r.t,n ≤ reachBytes) → r.wt a) ∧ r.bk a ≤ Rows.uptoBulk x.1
def za4 (t : TypeId) (k : IntKind) : Rd Int := ⟨t,Kd.int k,fun a => (Lit.int k a).wf = true,fun _ => True,fun _ => 1⟩
def rdBool (t : TypeId) : Rd Bool := ⟨t,Kd.bool,fun _ => True,fun _ => True,fun _ => 1⟩
def zaJ (t : TypeId) : Rd ByteArray := ⟨t,Kd.string,fun a => a.size ≤ maxLen,fun a => a.size ≤ reachBytes,fun a => a.size + 1⟩
def zaK {α : Type} (t : TypeId) (B : Nat) (r : Rd α) : Rd (List α) :=
 ⟨t,Kd.slice r.t r.d,fun l => l.length ≤ maxLen ∧ ∀ a ∈ l,r.ok a,fun l => l.length * B ≤ reachBytes ∧ ∀ a ∈ l,r.wt a,fun l => (l.map r.bk).sum + 1⟩
section
variable {P : Program}
theorem zdy {t : TypeId} {k : IntKind} (h : P.underlying t = some (.int k)) : zf0 P (za4 t k) := by
 constructor
 intro H enc w fuel cs x hx
 obtain ⟨n,rfl,rfl,hw⟩ := DataW.trod_int h hx
 exact ⟨n,rfl,hw,fun _ => trivial,by simp [za4,Rows.uptoBulk]⟩
theorem zeX {t : TypeId} (h : P.underlying t = some .string) : zf0 P (zaJ t) := by
 constructor
 intro H enc w fuel cs x hx
 obtain ⟨s,rfl,rfl,hs⟩ := DataW.trod_string h hx
 have e : s.data.toList.length = s.size := by rw [Array.length_toList];rfl
 refine ⟨s,rfl,hs,fun hn => ?_,by simp only [zaJ,Rows.uptoBulk,e];exact Nat.le_refl _⟩
 have := hn s.data.toList.length (by simp [DataW.weights])
 rwa [e] at this
theorem zij {H α : Type} (f : Nat → DataW H) (g : Nat → α) (bk : α → Nat) (n : Nat) (h : ∀ i,i < n → bk (g i) ≤ Rows.uptoBulk (f i)) : (((List.range n).map g).map bk).sum ≤ Rows.uptoBulkAll ((List.range n).map f) := by
 suffices k : ∀ l : List Nat,(∀ i ∈ l,i < n) → ((l.map g).map bk).sum ≤ Rows.uptoBulkAll (l.map f) from k _ (fun i hi => List.mem_range.1 hi)
 intro l
 induction l with
 | nil => intro _;simp
 | cons i l ih =>
  intro hl
  have h1 := h i (hl i List.mem_cons_self)
  have h2 := ih (fun j hj => hl j (List.mem_cons_of_mem _ hj))
  simp only [List.map_cons,List.sum_cons,Rows.uptoBulkAll]
  omega
theorem zex {H : Type} {e : TypeId} : ∀ {l : List (DataW H)} {d : DataW H} {n : Nat},d ∈ l → n ∈ d.weights P e → n ∈ DataW.weightsAll P e l
 | x :: l,d,n,hd,hn => by
  simp only [DataW.weightsAll,List.mem_append]
  rcases List.mem_cons.1 hd with rfl | hd
  ·exact .inl hn
  ·exact .inr (zex hd hn)
theorem zfn {α : Type} [Inhabited α] {r : Rd α} (hr : zf0 P r) {t : TypeId} {B : Nat} (h : P.underlying t = some (.slice r.t)) (hc : P.cellsOf r.t = r.d.sz) (hB : P.bytesOf r.t = B) : zf0 P (zaK t B r) := by
 constructor
 intro H enc w fuel cs x hx
 rcases Deep.open_slice h hx with ⟨rfl,rfl⟩ | ⟨a,len,cap,m,n,D,Pl,rfl,_,hl,hm,hmm,rfl,hel⟩
 ·exact ⟨[],⟨none,0,rfl,Nat.le_refl _,Kd.C_nil _ _⟩,⟨Nat.zero_le _,by simp⟩,fun _ => ⟨by simp,by simp⟩,by simp [zaK,Rows.uptoBulk]⟩
 ·simp only [if_true] at hmm
  subst hmm
  obtain ⟨f,hf⟩ := Deep.choose_lt (α := α) (n := len) (p := fun i v => ∃ c,w.cells? 0 (a.add (i * P.cellsOf r.t)) (P.cellsOf r.t) = some c ∧ r.d.K w v c ∧ r.ok v ∧ ((∀ q ∈ (D i).weights P r.t,q ≤ reachBytes) → r.wt v) ∧ r.bk v ≤ Rows.uptoBulk (D i)) (fun i hi => by
   obtain ⟨cs',h1,h2⟩ := hel i (by omega)
   obtain ⟨v,k1,k2,k3,k4⟩ := hr.out h2
   exact ⟨v,cs',h1,k1,k2,k3,k4⟩)
  have hlen : ((List.range len).map f).length = len := by simp
  refine ⟨(List.range len).map f,⟨some a,m,by rw [hlen],by rw [hlen];exact hl,?_⟩,⟨by rw [hlen];omega,?_⟩,fun hw => ⟨?_,?_⟩,?_⟩
  ·rw [hlen]
   refine ⟨hlen,by unfold maxLen at hm;omega,fun _ => ⟨a,rfl,fun j p hj => ?_⟩⟩
   have hjl : j < len := by
    have := (List.getElem?_eq_some_iff.1 hj).1
    simpa using this
   obtain ⟨c,c1,c2,_⟩ := hf j hjl
   have hp : f j = p := by simpa [List.getElem?_map,List.getElem?_range hjl] using hj
   obtain ⟨_,l2,l3⟩ := World.cells?_some c1
   refine ⟨c,by rw [l2,hc],hp ▸ c2,fun i u hu => ?_⟩
   have hi : i < P.cellsOf r.t := by rw [← l2];exact (List.getElem?_eq_some_iff.1 hu).1
   rw [← hc,← Deep.add_add,l3 i hi]
   exact hu
  ·intro v hv
   obtain ⟨i,hi,rfl⟩ := List.mem_map.1 hv
   obtain ⟨c,_,_,h3,_⟩ := hf i (List.mem_range.1 hi)
   exact h3
  ·have := hw ((((List.range len).map D).length + ((List.range (m - len)).map fun j => D (len + j)).length) * P.bytesOf r.t) (by show _ ∈ DataW.weights P t _;simp only [DataW.weights,h];exact List.mem_cons_self)
   rw [hlen]
   rw [hB] at this
   simp only [List.length_map,List.length_range] at this
   exact Nat.le_trans (Nat.mul_le_mul_right _ (by omega)) this
  ·intro v hv
   obtain ⟨i,hi,rfl⟩ := List.mem_map.1 hv
   obtain ⟨c,_,_,_,h4,_⟩ := hf i (List.mem_range.1 hi)
   refine h4 (fun q hq => hw q ?_)
   show _ ∈ DataW.weights P t _
   simp only [DataW.weights,h]
   exact List.mem_cons_of_mem _ (List.mem_append_left _ (zex (List.mem_map.2 ⟨i,hi,rfl⟩) hq))
  ·simp only [zaK,Rows.uptoBulk]
   have := zij D f r.bk len (fun i hi => (hf i hi).choose_spec.2.2.2.2)
   omega
structure zey {β : Type} (P : Program) (fs : List Field) (o : Nat) (d : Kd β) (ok wt : β → Prop) (bk : β → Nat) : Prop where
 out : ∀ {H : Type} {enc : TypeId × Value → H} {w : World} {n : Nat} {cs : List Value} {xs : List (DataW H × List MemPlace)},xs.length = fs.length → cs.length = o + d.sz →
  (∀ (i : Nat) (f : Field),fs[i]? = some f → DataW.trod enc P w 0 (fun _ => true) true n f.type ((cs.drop f.offset).take (P.cellsOf f.type)) = xs[i]?) →
  ∃ b,d.K w b (cs.drop o) ∧ ok b ∧ ((∀ q ∈ DataW.weightsEach P (fs.map (·.type)) (xs.map (·.1)),q ≤ reachBytes) → wt b) ∧ bk b ≤ Rows.uptoBulkAll (xs.map (·.1))
theorem zd0 {α : Type} {r : Rd α} (hr : zf0 P r) {f : Field} (ht : f.type = r.t) {o : Nat} (ho : f.offset = o) (hc : P.cellsOf r.t = r.d.sz) : zey P [f] o r.d r.ok r.wt r.bk := by
 constructor
 intro H enc w n cs xs hl hcs hx
 match xs,hl with
 | [x],_ =>
  have h := hx 0 f rfl
  rw [ho,ht,hc,List.take_of_length_le (by rw [List.length_drop];omega)] at h
  obtain ⟨a,h1,h2,h3,h4⟩ := hr.out h
  refine ⟨a,h1,h2,fun hq => h3 (fun q hm => hq q ?_),by simp [Rows.uptoBulkAll];omega⟩
  simp only [List.map_cons,List.map_nil,DataW.weightsEach,List.mem_append,ht]
  exact .inl hm
theorem zb8 {α β : Type} {r : Rd α} (hr : zf0 P r) {f : Field} (ht : f.type = r.t) {fs : List Field} {o o' : Nat} (ho : f.offset = o) (hc : P.cellsOf r.t = r.d.sz) (ho' : o' = o + r.d.sz) {d : Kd β} {ok wt : β → Prop} {bk : β → Nat} (hfs : zey P fs o' d ok wt bk) :
  zey P (f :: fs) o (Kd.pair r.d d) (fun x => r.ok x.1 ∧ ok x.2) (fun x => r.wt x.1 ∧ wt x.2) (fun x => r.bk x.1 + bk x.2) := by
 constructor
 intro H enc w n cs xs hl hcs hx
 match xs,hl with
 | x :: xs,hl =>
  have h := hx 0 f rfl
  have hcs' : cs.length = o + (r.d.sz + d.sz) := hcs
  rw [ho,ht,hc] at h
  obtain ⟨a,h1,h2,h3,h4⟩ := hr.out h
  obtain ⟨b,k1,k2,k3,k4⟩ := hfs.out (enc := enc) (w := w) (n := n) (cs := cs) (xs := xs) (by simpa using hl) (by omega) (fun i g hg => hx (i + 1) g hg)
  refine ⟨(a,b),⟨(cs.drop o).take r.d.sz,cs.drop o',?_,h1,k1⟩,⟨h2,k2⟩,fun hq => ⟨h3 (fun q hm => hq q ?_),k3 (fun q hm => hq q ?_)⟩,?_⟩
  ·rw [ho',← List.drop_drop,List.take_append_drop]
  ·simp only [List.map_cons,DataW.weightsEach,List.mem_append,ht]
   exact .inl hm
  ·simp only [List.map_cons,DataW.weightsEach,List.mem_append]
   exact .inr hm
  ·simp only [List.map_cons,Rows.uptoBulkAll];omega
def zer {α β : Type} (t : TypeId) (d : Kd β) (f : α → β) (ok wt : β → Prop) (bk : β → Nat) : Rd α := ⟨t,Kd.iso d f,fun a => ok (f a),fun a => wt (f a),fun a => bk (f a) + 1⟩
theorem zd2 {α β : Type} {t : TypeId} {fs : List Field} {d : Kd β} {ok wt : β → Prop} {bk : β → Nat} (hfs : zey P fs 0 d ok wt bk) (h : P.underlying t = some (.struct fs.toArray)) (hc : P.cellsOf t = d.sz) (f : α → β) (g : β → α) (hfg : ∀ b,f (g b) = b) : zf0 P (zer t d f ok wt bk) := by
 constructor
 intro H enc w fuel cs x hx
 obtain ⟨xs,n,rfl,rfl,hl,hn,hf⟩ := DataW.trod_struct h hx
 obtain ⟨b,k1,k2,k3,k4⟩ := hfs.out (enc := enc) (w := w) (n := n) (cs := cs) (xs := xs) (by simpa using hn) (by omega) (fun i g hg => hf i g (by simpa using hg))
 refine ⟨g b,?_,?_,fun hq => ?_,?_⟩
 ·show d.K w (f (g b)) cs
  rw [hfg]
  exact k1
 ·show ok (f (g b))
  rw [hfg]
  exact k2
 ·show wt (f (g b))
  rw [hfg]
  refine k3 (fun q hm => hq q ?_)
  show _ ∈ DataW.weights P t _
  simp only [DataW.weights,h]
  exact hm
 ·show bk (f (g b)) + 1 ≤ _
  rw [hfg]
  simp only [Rows.uptoBulk]
  omega
end
theorem zhQ {α H : Type} {P : Program} {r : Rd α} (hr : zf0 P r) {enc : TypeId × Value → H} {w : World} {v : Value} {d : DataW H} {ps : List MemPlace} (h : DataW.Trod enc P w 0 (fun _ => true) true r.t v d ps) :
  ∃ a,r.d.K w a v.cells.toList ∧ r.ok a ∧ ((∀ n ∈ d.weights P r.t,n ≤ reachBytes) → r.wt a) ∧ r.bk a ≤ Rows.uptoBulk d := by
 obtain ⟨fuel,hf⟩ := h
 exact hr.out hf
end Go.Proofs.YtfhbeonhnhjikaaGreat.Px
namespace Go.Proofs.YtfhbeonhnhjikaaGreat.Px
open Go.RowKit Go.Proofs.YtfhbeonhnhjikaaGreat.Px Go.Proofs.YtfhbeonhnhjikaaGreatW.PrintWords Go.Proofs.YtfhbeonhnhjikaaGreatW.PrintLast Go.Proofs.YtfhbeonhnhjikaaGreatW.PrintMore
set_option linter.unusedVariables false
instance : Inhabited S73 := ⟨z73⟩
def zgE : Rd S73 := zer 73 (Kd.pair (za4 3 .i64).d (Kd.pair (za4 3 .i64).d (zaK 23 16 (zaJ 9)).d)) (fun x : S73 => (x.f0,x.f1,x.f2)) (fun y => (za4 3 .i64).ok y.1 ∧ ((za4 3 .i64).ok y.2.1 ∧ ((zaK 23 16 (zaJ 9)).ok y.2.2))) (fun y => (za4 3 .i64).wt y.1 ∧ ((za4 3 .i64).wt y.2.1 ∧ ((zaK 23 16 (zaJ 9)).wt y.2.2))) (fun y => (za4 3 .i64).bk y.1 + ((za4 3 .i64).bk y.2.1 + ((zaK 23 16 (zaJ 9)).bk y.2.2)))
theorem fit73 : zf0 Tryz.prog zgE :=
 zd2 (zb8 (o := 0) (o' := 1) (ok := fun (y : Int × (List ByteArray)) => (za4 3 .i64).ok y.1 ∧ ((zaK 23 16 (zaJ 9)).ok y.2)) (wt := fun (y : Int × (List ByteArray)) => (za4 3 .i64).wt y.1 ∧ ((zaK 23 16 (zaJ 9)).wt y.2)) (bk := fun (y : Int × (List ByteArray)) => (za4 3 .i64).bk y.1 + ((zaK 23 16 (zaJ 9)).bk y.2)) (zdy Tryz.underlying3) rfl rfl (by kernel_rfl) rfl (zb8 (o := 1) (o' := 2) (ok := fun (y : (List ByteArray)) => (zaK 23 16 (zaJ 9)).ok y) (wt := fun (y : (List ByteArray)) => (zaK 23 16 (zaJ 9)).wt y) (bk := fun (y : (List ByteArray)) => (zaK 23 16 (zaJ 9)).bk y) (zdy Tryz.underlying3) rfl rfl (by kernel_rfl) rfl (zd0 (zfn (zeX Tryz.underlying9) Tryz.underlying23 (by kernel_rfl) (by kernel_rfl)) rfl rfl (by kernel_rfl)))) Tryz.underlying73 (by kernel_rfl) (fun x : S73 => (x.f0,x.f1,x.f2)) (fun y => ⟨y.1,y.2.1,y.2.2⟩) (fun _ => rfl)
instance : Inhabited S25 := ⟨z25⟩
def zeq : Rd S25 := zer 25 (Kd.pair (za4 3 .i64).d (za4 3 .i64).d) (fun x : S25 => (x.f0,x.f1)) (fun y => (za4 3 .i64).ok y.1 ∧ ((za4 3 .i64).ok y.2)) (fun y => (za4 3 .i64).wt y.1 ∧ ((za4 3 .i64).wt y.2)) (fun y => (za4 3 .i64).bk y.1 + ((za4 3 .i64).bk y.2))
theorem fit25 : zf0 Tryz.prog zeq :=
 zd2 (zb8 (o := 0) (o' := 1) (ok := fun (y : Int) => (za4 3 .i64).ok y) (wt := fun (y : Int) => (za4 3 .i64).wt y) (bk := fun (y : Int) => (za4 3 .i64).bk y) (zdy Tryz.underlying3) rfl rfl (by kernel_rfl) rfl (zd0 (zdy Tryz.underlying3) rfl rfl (by kernel_rfl))) Tryz.underlying25 (by kernel_rfl) (fun x : S25 => (x.f0,x.f1)) (fun y => ⟨y.1,y.2⟩) (fun _ => rfl)
instance : Inhabited S27 := ⟨z27⟩
def rd27 : Rd S27 := zer 27 (Kd.pair (za4 3 .i64).d (Kd.pair (za4 3 .i64).d (Kd.pair (zaK 22 40 zgE).d (Kd.pair (zaK 23 16 (zaJ 9)).d zeq.d)))) (fun x : S27 => (x.f0,x.f1,x.f2,x.f3,x.f4)) (fun y => (za4 3 .i64).ok y.1 ∧ ((za4 3 .i64).ok y.2.1 ∧ ((zaK 22 40 zgE).ok y.2.2.1 ∧ ((zaK 23 16 (zaJ 9)).ok y.2.2.2.1 ∧ (zeq.ok y.2.2.2.2))))) (fun y => (za4 3 .i64).wt y.1 ∧ ((za4 3 .i64).wt y.2.1 ∧ ((zaK 22 40 zgE).wt y.2.2.1 ∧ ((zaK 23 16 (zaJ 9)).wt y.2.2.2.1 ∧ (zeq.wt y.2.2.2.2))))) (fun y => (za4 3 .i64).bk y.1 + ((za4 3 .i64).bk y.2.1 + ((zaK 22 40 zgE).bk y.2.2.1 + ((zaK 23 16 (zaJ 9)).bk y.2.2.2.1 + (zeq.bk y.2.2.2.2)))))
theorem fit27 : zf0 Tryz.prog rd27 :=
 zd2 (zb8 (o := 0) (o' := 1) (ok := fun (y : Int × (List S73) × (List ByteArray) × S25) => (za4 3 .i64).ok y.1 ∧ ((zaK 22 40 zgE).ok y.2.1 ∧ ((zaK 23 16 (zaJ 9)).ok y.2.2.1 ∧ (zeq.ok y.2.2.2)))) (wt := fun (y : Int × (List S73) × (List ByteArray) × S25) => (za4 3 .i64).wt y.1 ∧ ((zaK 22 40 zgE).wt y.2.1 ∧ ((zaK 23 16 (zaJ 9)).wt y.2.2.1 ∧ (zeq.wt y.2.2.2)))) (bk := fun (y : Int × (List S73) × (List ByteArray) × S25) => (za4 3 .i64).bk y.1 + ((zaK 22 40 zgE).bk y.2.1 + ((zaK 23 16 (zaJ 9)).bk y.2.2.1 + (zeq.bk y.2.2.2)))) (zdy Tryz.underlying3) rfl rfl (by kernel_rfl) rfl (zb8 (o := 1) (o' := 2) (ok := fun (y : (List S73) × (List ByteArray) × S25) => (zaK 22 40 zgE).ok y.1 ∧ ((zaK 23 16 (zaJ 9)).ok y.2.1 ∧ (zeq.ok y.2.2))) (wt := fun (y : (List S73) × (List ByteArray) × S25) => (zaK 22 40 zgE).wt y.1 ∧ ((zaK 23 16 (zaJ 9)).wt y.2.1 ∧ (zeq.wt y.2.2))) (bk := fun (y : (List S73) × (List ByteArray) × S25) => (zaK 22 40 zgE).bk y.1 + ((zaK 23 16 (zaJ 9)).bk y.2.1 + (zeq.bk y.2.2))) (zdy Tryz.underlying3) rfl rfl (by kernel_rfl) rfl (zb8 (o := 2) (o' := 3) (ok := fun (y : (List ByteArray) × S25) => (zaK 23 16 (zaJ 9)).ok y.1 ∧ (zeq.ok y.2)) (wt := fun (y : (List ByteArray) × S25) => (zaK 23 16 (zaJ 9)).wt y.1 ∧ (zeq.wt y.2)) (bk := fun (y : (List ByteArray) × S25) => (zaK 23 16 (zaJ 9)).bk y.1 + (zeq.bk y.2)) (zfn fit73 Tryz.underlying22 (by kernel_rfl) (by kernel_rfl)) rfl rfl (by kernel_rfl) rfl (zb8 (o := 3) (o' := 4) (ok := fun (y : S25) => zeq.ok y) (wt := fun (y : S25) => zeq.wt y) (bk := fun (y : S25) => zeq.bk y) (zfn (zeX Tryz.underlying9) Tryz.underlying23 (by kernel_rfl) (by kernel_rfl)) rfl rfl (by kernel_rfl) rfl (zd0 fit25 rfl rfl (by kernel_rfl)))))) Tryz.underlying27 (by kernel_rfl) (fun x : S27 => (x.f0,x.f1,x.f2,x.f3,x.f4)) (fun y => ⟨y.1,y.2.1,y.2.2.1,y.2.2.2.1,y.2.2.2.2⟩) (fun _ => rfl)
instance : Inhabited S30 := ⟨z30⟩
def rd30 : Rd S30 := zer 30 (Kd.pair rd27.d (za4 28 .u64).d) (fun x : S30 => (x.f0,x.f1)) (fun y => rd27.ok y.1 ∧ ((za4 28 .u64).ok y.2)) (fun y => rd27.wt y.1 ∧ ((za4 28 .u64).wt y.2)) (fun y => rd27.bk y.1 + ((za4 28 .u64).bk y.2))
theorem fit30 : zf0 Tryz.prog rd30 :=
 zd2 (zb8 (o := 0) (o' := 6) (ok := fun (y : Int) => (za4 28 .u64).ok y) (wt := fun (y : Int) => (za4 28 .u64).wt y) (bk := fun (y : Int) => (za4 28 .u64).bk y) fit27 rfl rfl (by kernel_rfl) rfl (zd0 (zdy Tryz.underlying28) rfl rfl (by kernel_rfl))) Tryz.underlying30 (by kernel_rfl) (fun x : S30 => (x.f0,x.f1)) (fun y => ⟨y.1,y.2⟩) (fun _ => rfl)
def zdb : Prop := ∀ (a0 : S30) (a1 : ByteArray) (a2 : Int),rd30.ok a0 → (zaJ 9).ok a1 → (za4 3 .i64).ok a2 → rd30.wt a0 → (zaJ 9).wt a1 → (za4 3 .i64).wt a2 → zaQ.f (a0.f0.f0) (a0.f0.f1) (a0.f0.f2) (a0.f0.f3) (a0.f0.f4.f0) (a0.f0.f4.f1) (a0.f1) a1 a2 = some true
end Go.Proofs.YtfhbeonhnhjikaaGreat.Px
namespace Go.Proofs.YtfhbeonhnhjikaaGreat.Pure
open Go.RowKit Go.Proofs.YtfhbeonhnhjikaaGreat.Px Go.Proofs.YtfhbeonhnhjikaaGreatW.PrintWords Go.Proofs.YtfhbeonhnhjikaaGreatW.PrintLast Go.Proofs.YtfhbeonhnhjikaaGreatW.PrintMore
theorem CertBytes : zdb := by
 rintro ⟨⟨a,r,bs,ps,⟨x,y⟩⟩,z⟩ s n ⟨_,hz⟩ _ _ ⟨⟨_,_,⟨v1,v2⟩,⟨p1,p2⟩,_⟩,_⟩ hs _
 obtain ⟨s0,s1⟩ := u64_wf hz
 have hs' : s.size ≤ 140737488351232 := hs
 have v1' : bs.length * 40 ≤ 140737488351232 := v1
 have p1' : ps.length * 16 ≤ 140737488351232 := p1
 have k0 : s.size < 4611686018427387904 := by omega
 have k1 : bs.length < 4611686018427387904 := by omega
 have k2 : ze5 bs = true := List.all_eq_true.2 fun b hb => decide_eq_true (by
  obtain ⟨_,_,l1,_⟩ := v2 b hb
  have l1' : b.f2.length * 16 ≤ 140737488351232 := l1
  omega)
 have k3 : ps.length < 4611686018427387904 := by omega
 have k4 : (ps.all fun t => decide (t.size < 4611686018427387904)) = true := List.all_eq_true.2 fun t ht => decide_eq_true (by
  have t1 : t.size ≤ 140737488351232 := p2 t ht
  omega)
 exact if_pos ⟨k0,k1,k2,k3,k4,s0,s1⟩
end Go.Proofs.YtfhbeonhnhjikaaGreat.Pure
namespace Go.Proofs.YtfhbeonhnhjikaaGreat.certBytes
open Go.ChangeShapes Go.WideShapes Go.ChangeAt Go.RowKit
open Go.ChangeMaps (open_string shut_string)
open Go.RowKit Go.Proofs.YtfhbeonhnhjikaaGreat.Px Go.Proofs.YtfhbeonhnhjikaaGreatW.PrintWords Go.Proofs.YtfhbeonhnhjikaaGreatW.PrintLast Go.Proofs.YtfhbeonhnhjikaaGreatW.PrintMore
set_option linter.unusedVariables false
theorem own : ownKnob Tryz.prog.godebug = none := by kernel_rfl
theorem laidOut : laidOutB Tryz.prog = true := by kernel_rfl
set_option maxRecDepth 100000 in
theorem contract (H : Type) (enc : TypeId × Value → H) (W : World) (base : Nat) (args : Array Value) (ds gs : List (DataW H)) (before : List MemPlace)
  (hval0 : ∀ (j : Nat) t v,Tryz.f3.params[j]? = some t → args[j]? = some v → Value.okWide Tryz.prog W .any base t v)
  (hW : DataW.Whole enc Tryz.prog Tryz.f3.params.toList Rows.certBytesSpec.vars false W args.toList ds gs before)
  (hsz0 : (DataW.weightsEach Tryz.prog (Tryz.f3.params.toList ++ Rows.certBytesSpec.plain.varTypes Tryz.prog) (ds ++ gs)).all (· ≤ reachBytes) = true) :
  Calls Tryz.prog 3 args W fun e W' => ∃ v,e = .returned v ∧ Rows.certBytesSpec.post enc Tryz.prog Tryz.f3 false true false false W args v W' := by
 have hval : ∀ (j : Nat) t v,Tryz.f3.params[j]? = some t → args[j]? = some v → Value.okWide Tryz.prog W .any base t v := hval0
 have hW' := hW
 obtain ⟨p,q,hA0,hV,rfl,hfz,hnd⟩ := hW
 have hA : DataW.TrodAll enc Tryz.prog W 0 (fun _ => true) true Tryz.f3.params.toList args.toList ds p := hA0
 have hsz := hsz0
 rw [Tryz.params3] at hA hval hsz
 obtain ⟨v0,vs0,d0,ds0,p0,q0,hargs,rfl,rfl,h0,r0⟩ := trodAll_cons hA
 obtain ⟨v1,vs1,d1,ds1,p1,q1,rfl,rfl,rfl,h1,r1⟩ := trodAll_cons r0
 obtain ⟨v2,vs2,d2,ds2,p2,q2,rfl,rfl,rfl,h2,r2⟩ := trodAll_cons r1
 obtain ⟨rfl,rfl,rfl⟩ := trodAll_nil r2
 obtain rfl : args = #[v0,v1,v2] := by cases args;simp_all
 obtain ⟨rfl,rfl⟩ := trodVars_none hV
 have t0 := h0
 have lt0 : ∀ x ∈ p0,x.block < W.heap.size := by obtain ⟨m,hm⟩ := t0;exact DataW.trod_lt m _ _ _ hm
 have t1 := h1
 have lt1 : ∀ x ∈ p1,x.block < W.heap.size := by obtain ⟨m,hm⟩ := t1;exact DataW.trod_lt m _ _ _ hm
 have t2 := h2
 have lt2 : ∀ x ∈ p2,x.block < W.heap.size := by obtain ⟨m,hm⟩ := t2;exact DataW.trod_lt m _ _ _ hm
 obtain ⟨a0,K0,ok0,wt0,bk0⟩ := zhQ fit30 h0
 have wq0 := wt0 (fun n hn => of_decide_eq_true (List.all_eq_true.1 hsz n (DataW.weights_mem_each (j := 0) (t := rd30.t) (d := d0) rfl rfl n hn)))
 obtain ⟨cs0,rfl,sz0⟩ := okWide_struct Tryz.underlying30 (hval 0 30 v0 rfl rfl)
 obtain ⟨A0_0_2,c0_0_2,A0_0_3,c0_0_3,e0,l0_0_2,g0_0_2,l0_0_3,g0_0_3⟩ := k30_open (show k30.K W a0 _ from K0)
 obtain rfl : cs0 = #[.int .i64 a0.f0.f0,.int .i64 a0.f0.f1,.slice A0_0_2 a0.f0.f2.length c0_0_2,.slice A0_0_3 a0.f0.f3.length c0_0_3,.int .i64 a0.f0.f4.f0,.int .i64 a0.f0.f4.f1,.int .u64 a0.f1] := by have := congrArg List.toArray e0;simpa [Value.cells] using this
 obtain ⟨a1,K1,ok1,wt1,bk1⟩ := zhQ (zeX Tryz.underlying9) h1
 have wq1 := wt1 (fun n hn => of_decide_eq_true (List.all_eq_true.1 hsz n (DataW.weights_mem_each (j := 1) (t := (zaJ 9).t) (d := d1) rfl rfl n hn)))
 obtain ⟨a1',rfl,rfl,rfl,y1⟩ := open_string Tryz.underlying9 (hval 1 9 v1 rfl rfl) h1
 have e1 : a1' = a1 := by have := K1;simpa [za4,rdBool,zaJ,Kd.int,Kd.bool,Kd.string,Kd.scalar,Value.cells] using this
 subst e1
 obtain ⟨a2,K2,ok2,wt2,bk2⟩ := zhQ (zdy Tryz.underlying3) h2
 have wq2 := wt2 (fun n hn => of_decide_eq_true (List.all_eq_true.1 hsz n (DataW.weights_mem_each (j := 2) (t := (za4 3 .i64).t) (d := d2) rfl rfl n hn)))
 obtain ⟨a2',rfl,rfl,rfl,y2⟩ := open_int Tryz.underlying3 (hval 2 3 v2 rfl rfl) h2
 have e2 : a2' = a2 := by have := K2;simpa [za4,rdBool,zaJ,Kd.int,Kd.bool,Kd.string,Kd.scalar,Value.cells] using this
 subst e2
 have hkk := Pure.CertBytes a0 a1' a2' ok0 ok1 ok2 wq0 wq1 wq2
 refine (zaQ.calls (a0.f0.f0) (a0.f0.f1) A0_0_2 c0_0_2 (a0.f0.f2) A0_0_3 c0_0_3 (a0.f0.f3) (a0.f0.f4.f0) (a0.f0.f4.f1) (a0.f1) a1' a2' true W g0_0_2 l0_0_2 g0_0_3 l0_0_3 hkk).mono fun e W' ⟨he,bel0⟩ => ?_
 have bel := bel0
 subst he
 exact ⟨_,rfl,_,_,_,[],_,[],hW',trodAll_mk1 (shut_bool Tryz.underlying4 _),(trodAll_cons_mk (Below.trod laidOut (by kernel_rfl) (of_decide_eq_true (by kernel_rfl)) t0 bel lt0) (trodAll_cons_mk (Below.trod laidOut (by kernel_rfl) (of_decide_eq_true (by kernel_rfl)) t1 bel lt1) (trodAll_cons_mk (Below.trod laidOut (by kernel_rfl) (of_decide_eq_true (by kernel_rfl)) t2 bel lt2) trodAll_mk0))),rfl,bel.frame _,fun h => by cases h⟩
set_option maxRecDepth 100000 in
theorem lifted (os : Os) (started : os.Started) (H : Type) (enc : TypeId × Value → H) :
  ReturnsInHanded {} Tryz.checked os 3 .any (Rows.certBytesSpec.pre6 enc Tryz.prog Tryz.f3 Rows.certBytesRow.domain false) (Rows.certBytesSpec.post enc Tryz.prog Tryz.f3 false true false false) := by
 refine returnsInHanded_of_change_sized (C := Tryz.checked) own started (by kernel_rfl) Tryz.func3
  (ChangeSpec.witness6 (enc := enc) (C := Tryz.checked) false ⟨#[],#[.agg #[.int .i64 0,.int .i64 0,.slice none 0 0,.slice none 0 0,.int .i64 0,.int .i64 0,.int .u64 0],.string ByteArray.empty,.int .i64 0],[]⟩ 8 (by kernel_rfl) (by kernel_rfl) (by kernel_rfl) (by kernel_rfl)) ?_
 intro W base args ds gs before hval hW _ hsz _
 exact contract H enc W base args ds gs before hval hW hsz
theorem proved : Rows.CertBytesSaid :=
 OpenClaim.holds_of_wide 3 Tryz.f3 rfl rfl rfl rfl rfl rfl rfl ⟨rfl,rfl,rfl,rfl,rfl⟩ rfl rfl rfl rfl rfl (by kernel_rfl) Tryz.func3 (by kernel_rfl)
  (of_decide_eq_true (by kernel_rfl)) (by unfold Func.isWrapper;first | (rw [if_pos (by decide +kernel)];kernel_rfl) | (rw [if_neg (by decide +kernel)];exact ⟨rfl,rfl⟩))
  (fun os started H enc _ => lifted os started H enc)
#print axioms proved
end Go.Proofs.YtfhbeonhnhjikaaGreat.certBytes
namespace Go.Proofs.YtfhbeonhnhjikaaGreat
theorem certBytes_holds : Rows.CertBytesSaid := certBytes.proved
end Go.Proofs.YtfhbeonhnhjikaaGreat